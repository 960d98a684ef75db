/- PART 15 OF A PROOF: Lean functions, and that the program computes them; written by hand and by a program. Not trusted: Lean checks it. -/
import Derived.Lib.LazyBuf
import Derived.Test.YtkblbggmpahljaaGreatDoorDa3
import Derived.Test.YtkblbggmpahljaaGreatDoorDa6
import Derived.Test.YtkblbggmpahljaaGreatDoorDa10
import Derived.Test.YtkblbggmpahljaaGreatDoorDa11
import Derived.Test.YtkblbggmpahljaaGreatDoorDa14
set_option linter.unusedVariables false
set_option linter.unusedSimpArgs false
section
namespace Go.Proofs.YtkblbggmpahljaaGreatDoor.Q
open Go.RowKit Go.Proofs.YtkblbggmpahljaaGreatDoorW.PrintWords Go.Proofs.YtkblbggmpahljaaGreatDoorW.PrintLast Go.Proofs.YtkblbggmpahljaaGreatDoorW.PrintMore
set_option linter.unusedVariables false
set_option linter.unusedSimpArgs false
open Go.Proofs.YtkblbggmpahljaaGreatDoorS
set_option maxHeartbeats 4000000 in
set_option maxRecDepth 1000000 in
theorem width2_calls (r : Int) (h : unar r) (w : World) :
    Calls Tryz.prog 74 #[.int .i32 r] w fun e w'=>e = .returned (.int .i64 1) ∧ Below w.heap.size w w':=by
  unfold unar at h
  rcases h with ⟨h1,h2⟩ | ⟨h1,h2⟩ | ⟨h1,h2⟩ <;> (go_enter Tryz.func74,Tryz.ntmps74;go_wp2;go_ret;exact ⟨rfl,Below.refl _ _⟩)
set_option maxHeartbeats 4000000 in
set_option maxRecDepth 1000000 in
theorem columns2_calls (s : ByteArray) (n : Nat) (w : World) (hz : s.size ≤ 1048576) (hn : Nar s.data.toList n) :
    Calls Tryz.prog 47 #[.string s] w fun e w'=>e = .returned (.int .i64 (n : Int)) ∧ Below w.heap.size w w':=by
  have hr:=runes_eq s hz (s.size + 11) (by omega)
  have hlen : (urunes s).length = n:=by rw [urunes_L];exact hn.runes.1
  have hun : ∀ r ∈ urunes s,unar r:=by rw [urunes_L];exact hn.runes.2
  have hn2 : n ≤ 1048576:=by have h1:=ucount_le s;rw [hn.count] at h1;omega
  obtain ⟨l,hl⟩ : ∃ l,urunes s = l:=⟨_,rfl⟩
  rw [hl] at hr hlen hun
  replace hr:=Lib.hid hr
  replace hun:=Lib.hid hun
  subst hlen
  clear hl
  go_enter Tryz.func47,Tryz.ntmps47
  go_wp2_with (first
    | (go_at_call 69;go_must (refine (rebusref01_Runes.calls _ _ _ _ hr.out).mono ?_;rintro e w3 ⟨v,rfl,rv,hb3⟩;obtain ⟨A,c,rfl⟩:=Kd.R_slice rv;have hR:=Lib.hid rv;have hB3:=Lib.hid hb3;clear rv hb3)))
  go_loopw [4,5] (fun v4 v5 wr=>∃ (i : Nat) (q : Int),v4 = .int .i64 q ∧ v5 = .int .i64 q ∧ Hid (q = i ∧ i ≤ l.length) ∧ Hid (Below w3.heap.size w3 wr)) (fun _ v5 _=>l.length - (intOf v5).toNat)
  case atStart=>exact ⟨0,0,rfl,rfl,Lib.hid ⟨rfl,Nat.zero_le _⟩,Lib.hid (Below.refl _ _)⟩
  case round =>
    obtain ⟨i,q,rfl,rfl,hq,hB⟩:=hrel
    by_cases hlt : i < l.length
    · have hq0 : 0 ≤ q:=by have:=hq.out;omega
      have hq1 : q < (l.length : Int):=by have:=hq.out;omega
      obtain ⟨ad,eA,zr⟩:=Kd.at_int (Kd.R_reads' (Kd.R_below hR.out hB.out)).2.2 q hq0 hq1
      cases eA
      obtain ⟨r,hrr⟩ : ∃ x,rd l q = x:=⟨_,rfl⟩
      rw [hrr] at zr
      have er : l[i] = r:=by
        rw [← hrr]
        unfold rd
        rw [List.getD_eq_getElem?_getD,show q.toNat = i by have:=hq.out;omega,List.getElem?_eq_getElem hlt]
        rfl
      have hur:=Lib.hid (hun.out r (by rw [← er];exact List.getElem_mem hlt))
      replace hlt:=Lib.hid hlt
      clear er hrr
      go_wp2_with (go_at_call 74;go_must (refine (width2_calls _ hur.out _).mono ?_;rintro e w4 ⟨rfl,hb4⟩;have hB4:=Lib.hid (hB.out.trans (hb4.mono hB.out.size));clear hb4))
      refine ⟨⟨i + 1,q + 1,rfl,rfl,Lib.hid ⟨by have:=hq.out;omega,hlt.out⟩,hB4⟩,?_⟩
      simp only [intOf];have:=hq.out;have:=hlt.out;omega
    · have hge : ¬ q < (l.length : Int):=by have:=hq.out;omega
      have hqE : q = (l.length : Int):=by have:=hq.out;omega
      subst hqE
      go_wp2
      go_ret
      exact ⟨rfl,below_step hB3.out hB.out⟩
theorem ba_of_list2 (x : ByteArray) : (⟨x.data.toList.toArray⟩ : ByteArray) = x:=by cases x;simp
theorem sp_snoc (s : ByteArray) (j : Nat) : s ++ spB j ++ ⟨#[32]⟩ = s ++ spB (j + 1):=by
  rw [ByteArray.append_assoc]
  congr 1
  have e : ∀ x y : ByteArray,x.data = y.data → x = y:=fun x y h=>by cases x;cases y;cases h;rfl
  refine e _ _ ?_
  have h1 : (spB j ++ ⟨#[32]⟩).data.toList = (spB (j + 1)).data.toList:=by
    rw [bap]
    show List.replicate j 32 ++ [32] = List.replicate (j + 1) 32
    rw [← List.replicate_succ']
  exact Array.toList_inj.1 h1
set_option maxHeartbeats 4000000 in
set_option maxRecDepth 1000000 in
theorem pad2_calls {s : ByteArray} {n : Nat} (hs : s.size ≤ 1048576) (hn : Nar s.data.toList n) (h3 : n ≤ 3) (w : World) :
    Calls Tryz.prog 45 #[.string s,.int .i64 3] w fun e w'=>e = .returned (.string (padB s)) ∧ Below w.heap.size w w':=by
  have hp : padB s = s ++ spB (3 - n):=by unfold padB;rw [hn.count]
  rw [hp]
  clear hp
  have hs0 : s ++ spB 0 = s:=by show s ++ (⟨#[]⟩ : ByteArray) = s;exact ByteArray.append_empty
  replace hs0:=Lib.hid hs0
  go_enter Tryz.func45,Tryz.ntmps45
  go_wp2_with (go_at_call 47;go_must (refine (columns2_calls s n _ hs hn).mono ?_;rintro e w1 ⟨rfl,hb1⟩))
  go_loopw [0,5] (fun v0 v5 wr=>∃ (j : Nat) (q : Int) (t : ByteArray),v0 = .string t ∧ v5 = .int .i64 q ∧ Hid (q = ((n + j : Nat) : Int) ∧ n + j ≤ 3 ∧ t = s ++ spB j) ∧ Hid (Below w.heap.size w wr)) (fun _ v5 _=>3 - (intOf v5).toNat)
  case atStart=>exact ⟨0,(n : Int),s,rfl,rfl,Lib.hid ⟨rfl,h3,hs0.out.symm⟩,Lib.hid hb1⟩
  case round =>
    obtain ⟨j,q,t,rfl,rfl,hj,hB⟩:=hrel
    have hts : t.size ≤ 1048580:=by rw [hj.out.2.2,ByteArray.size_append,spB_size];have:=hj.out;omega
    by_cases hlt : q < 3
    · have hq0 : 0 ≤ q:=by have:=hj.out;omega
      have hsum : ¬ (9223372036854775807 : Int) < (t.size : Int) + ((⟨#[32]⟩ : ByteArray).size : Int):=by
        have : (⟨#[32]⟩ : ByteArray).size = 1:=rfl
        omega
      have hq120 : q < 120:=by omega
      go_wp2
      refine ⟨⟨j + 1,q + 1,t ++ ⟨#[32]⟩,rfl,rfl,Lib.hid ⟨by have:=hj.out;omega,by have:=hj.out;omega,by rw [hj.out.2.2];exact sp_snoc s j⟩,hB⟩,?_⟩
      simp only [intOf];have:=hj.out;omega
    · have hjE : j = 3 - n:=by have:=hj.out;omega
      go_wp2
      go_ret
      exact ⟨by rw [hj.out.2.2,hjE];rfl,hB.out⟩
set_option maxHeartbeats 4000000 in
set_option maxRecDepth 1000000 in
theorem fit2_calls {s : ByteArray} {n : Nat} (hs : s.size ≤ 1048576) (hn : Nar s.data.toList n) (h3 : n ≤ 3) (w : World) :
    Calls Tryz.prog 48 #[.string s,.int .i64 3] w fun e w'=>e = .returned (.string s) ∧ Below w.heap.size w w':=by
  obtain ⟨L,hL,hLn,hLu⟩:=hn
  have hsz : s.data.toList.length = s.size:=rfl
  have hex : s.extract 0 s.size = s:=by simp
  replace hL:=Lib.hid hL
  replace hLu:=Lib.hid hLu
  replace hex:=Lib.hid hex
  replace hsz:=Lib.hid hsz
  go_enter Tryz.func48,Tryz.ntmps48
  go_wp2
  go_loopw [5,6] (fun v5 v6 wr=>∃ (i pos : Nat),v5 = .int .i64 (i : Int) ∧ v6 = .int .i64 (pos : Int) ∧ Hid (i ≤ L.length ∧ pos ≤ s.size ∧ s.data.toList.drop pos = (L.drop i).flatMap (fun r : Nat=>(Utf8.encode (r : Int)).data.toList)) ∧ Hid (Below w.heap.size w wr)) (fun _ v6 _=>s.size - (intOf v6).toNat)
  case atStart=>exact ⟨0,0,rfl,rfl,Lib.hid ⟨Nat.zero_le _,Nat.zero_le _,by rw [List.drop_zero,List.drop_zero];exact hL.out⟩,Lib.hid (Below.refl _ _)⟩
  case round =>
    obtain ⟨i,pos,rfl,rfl,hi,hB⟩:=hrel
    by_cases hp : pos < s.size
    · obtain ⟨h1,h2,hd⟩:=hi.out
      have hlt : i < L.length:=by
        rcases Nat.lt_or_ge i L.length with h | h
        · exact h
        · rw [List.drop_of_length_le h] at hd
          have:=congrArg List.length hd
          rw [List.length_drop,hsz.out] at this
          simp at this
          omega
      rw [List.drop_eq_getElem_cons hlt,List.flatMap_cons] at hd
      have hu:=hLu.out _ (List.getElem_mem hlt)
      obtain ⟨r,hr⟩ : ∃ r,L[i] = r:=⟨_,rfl⟩
      rw [hr] at hd hu
      have hdec : Utf8.decode s pos = (r,(Utf8.encode (r : Int)).data.toList.length):=by
        rw [← Lib.decodeL_drop,hd]
        exact dec_enc r (unar_valid hu) _
      obtain ⟨k,hk⟩ : ∃ k,(Utf8.encode (r : Int)).data.toList.length = k:=⟨_,rfl⟩
      rw [hk] at hdec
      have hlen:=congrArg List.length hd
      rw [List.length_drop,List.length_append,hsz.out,hk] at hlen
      have hd2 : s.data.toList.drop (pos + k) = (L.drop (i + 1)).flatMap (fun r : Nat=>(Utf8.encode (r : Int)).data.toList):=by
        rw [← List.drop_drop,hd,← hk,List.drop_left]
      have hk1 : 1 ≤ k:=by have h4:=width_pos s pos hp;rw [hdec] at h4;exact h4
      have hnx:=next_eq2 10 (Nat.le_refl _) s pos hp (by omega)
      rw [hdec] at hnx
      have hi3 : i ≤ 2:=by omega
      have hkp : pos + k ≤ s.size:=by omega
      replace hnx:=Lib.hid hnx
      replace hd2:=Lib.hid hd2
      replace hu:=Lib.hid hu
      replace hlt:=Lib.hid hlt
      clear hd hdec hk hr hlen hi h1 h2
      go_wp2_with (first
        | (go_at_call 75;go_must (refine (rebusref01_Next.calls _ _ _ _ _ _ hnx.out).mono ?_;rintro e w2 ⟨rfl,hdr⟩;have hb2:=hdr.below;have hB2:=Lib.hid (hB.out.trans (hb2.mono hB.out.size));clear hb2 hdr))
        | (go_at_call 74;have B:=hB2.out;clear hB2;go_must (refine (width2_calls _ hu.out _).mono ?_;rintro e w3 ⟨rfl,hb3⟩;have hB2:=Lib.hid (B.trans (hb3.mono B.size));clear hb3 B)))
      refine ⟨⟨i + 1,pos + k,?_,?_,Lib.hid ⟨hlt.out,hkp,hd2.out⟩,hB2⟩,?_⟩
      · congr 1
      · congr 1
      · simp only [intOf];omega
    · have hpE : pos = s.size:=by have:=hi.out;omega
      subst hpE
      go_wp2
      go_ret
      exact ⟨rfl,hB.out⟩
set_option maxHeartbeats 4000000 in
set_option maxRecDepth 1000000 in
theorem middle2_calls {s : ByteArray} {n : Nat} (hs : s.size ≤ 1048576) (hn : Nar s.data.toList n) (h3 : n ≤ 3) (w : World) :
    Calls Tryz.prog 28 #[.string s] w fun e w'=>e = .returned (.string (midB s)) ∧ Below w.heap.size w w':=by
  have h1n : Nar (⟨#[32]⟩ ++ s : ByteArray).data.toList (1 + n):=nar_app (Nar.ascii [32] (by decide)) hn
  have hsz : ¬ (9223372036854775807 : Int) < ((⟨#[32]⟩ : ByteArray).size : Int) + (s.size : Int):=by
    have : (⟨#[32]⟩ : ByteArray).size = 1:=rfl
    omega
  have hsz2 : ¬ (9223372036854775807 : Int) < ((⟨#[32]⟩ : ByteArray).size : Int) + (s.size : Int) + ((⟨#[32]⟩ : ByteArray).size : Int):=by
    have : (⟨#[32]⟩ : ByteArray).size = 1:=rfl
    omega
  have hm : n ≤ 2 → midB s = ⟨#[32]⟩ ++ s ++ spB (3 - (1 + n)):=fun h=>by unfold midB;rw [hn.count,if_pos h];unfold padB;rw [h1n.count]
  have hc : n = 0 ∨ n = 1 ∨ n = 2 ∨ n = 3:=by omega
  rcases hc with rfl | rfl | rfl | rfl
  · have hs0 : s = ⟨#[]⟩:=by
      have h4:=hn.count
      obtain ⟨L,e,hl,_⟩:=hn
      have : L = []:=List.eq_nil_of_length_eq_zero hl
      rw [this] at e
      rw [← ba_of_list2 s,e]
      rfl
    subst hs0
    have hv : midB ⟨#[]⟩ = ⟨#[32,32,32]⟩:=by decide +kernel
    rw [hv]
    clear hm hv
    go_enter Tryz.func28,Tryz.ntmps28
    go_wp2_with (go_at_call 47;go_must (refine (columns2_calls _ 0 _ hs hn).mono ?_;rintro e w1 ⟨rfl,hb1⟩))
    go_ret
    exact ⟨rfl,hb1⟩
  · rw [hm (by omega)]
    clear hm
    go_enter Tryz.func28,Tryz.ntmps28
    go_wp2_with (go_at_call 47;go_must (refine (columns2_calls _ 1 _ hs hn).mono ?_;rintro e w1 ⟨rfl,hb1⟩))
    go_ret
    exact ⟨rfl,hb1⟩
  · have he : ⟨#[32]⟩ ++ s ++ spB (3 - (1 + 2)) = ⟨#[32]⟩ ++ s:=by show ⟨#[32]⟩ ++ s ++ (⟨#[]⟩ : ByteArray) = _;exact ByteArray.append_empty
    rw [hm (by omega),he]
    clear hm he
    go_enter Tryz.func28,Tryz.ntmps28
    go_wp2_with (go_at_call 47;go_must (refine (columns2_calls _ 2 _ hs hn).mono ?_;rintro e w1 ⟨rfl,hb1⟩))
    go_ret
    exact ⟨rfl,hb1⟩
  · have hm3 : midB s = s:=by unfold midB;rw [hn.count,if_neg (by decide)]
    have hp : padB s = s:=by
      unfold padB
      rw [hn.count]
      show s ++ (⟨#[]⟩ : ByteArray) = s
      exact ByteArray.append_empty
    rw [hm3]
    clear hm hm3
    replace hp:=Lib.hid hp
    go_enter Tryz.func28,Tryz.ntmps28
    go_wp2_with (first
      | (go_at_call 47;go_must (refine (columns2_calls _ 3 _ hs hn).mono ?_;rintro e w1 ⟨rfl,hb1⟩))
      | (go_at_call 48;go_must (refine (fit2_calls hs hn (by omega) _).mono ?_;rintro e w2 ⟨rfl,hb2⟩))
      | (go_at_call 45;go_must (refine (pad2_calls hs hn (by omega) _).mono ?_;rw [hp.out];rintro e w3 ⟨rfl,hb3⟩)))
    go_ret
    exact ⟨rfl,(hb1.trans (hb2.mono hb1.size)).trans (hb3.mono (hb1.trans (hb2.mono hb1.size)).size)⟩
end Go.Proofs.YtkblbggmpahljaaGreatDoor.Q
end
section
namespace Go.Proofs.YtkblbggmpahljaaGreatDoor.Q
open Go.RowKit Go.Proofs.YtkblbggmpahljaaGreatDoorW.PrintWords Go.Proofs.YtkblbggmpahljaaGreatDoorW.PrintLast Go.Proofs.YtkblbggmpahljaaGreatDoorW.PrintMore
set_option linter.unusedVariables false
set_option linter.unusedSimpArgs false
open Go.Proofs.YtkblbggmpahljaaGreatDoorS
theorem cells5 {w : World} {b t : Nat} {v0 v1 v2 v3 v4 : Value} (h : w.heap[b]? = some (.cells #[v0,v1,v2,v3,v4] t (0,0))) : w.cell? ⟨b,0,none⟩ = some v0 ∧ w.cell? ⟨b,1,none⟩ = some v1 ∧ w.cell? ⟨b,2,none⟩ = some v2 ∧ w.cell? ⟨b,3,none⟩ = some v3 ∧ w.cell? ⟨b,4,none⟩ = some v4 :=
  ⟨(blk_cell h 0).trans rfl,(blk_cell h 1).trans rfl,(blk_cell h 2).trans rfl,(blk_cell h 3).trans rfl,(blk_cell h 4).trans rfl⟩
structure GridC (A2 : Option Addr) (c2 : Nat) (bl : List Bool) (A3 : Option Addr) (c3 : Nat) (ri : List Bool) (A4 : Option Addr) (c4 : Nat) (be : List Bool) (w : World) : Prop where
  h2 : Kd.C Kd.bool w A2 bl.length bl
  h3 : Kd.C Kd.bool w A3 ri.length ri
  h4 : Kd.C Kd.bool w A4 be.length be
theorem GridC.below {A2 : Option Addr} {c2 : Nat} {bl : List Bool} {A3 : Option Addr} {c3 : Nat} {ri : List Bool} {A4 : Option Addr} {c4 : Nat} {be : List Bool} {w w' : World} (h : GridC A2 c2 bl A3 c3 ri A4 c4 be w) (hb : Below w.heap.size w w') : GridC A2 c2 bl A3 c3 ri A4 c4 be w' :=
  ⟨Kd.C_below h.h2 hb,Kd.C_below h.h3 hb,Kd.C_below h.h4 hb⟩
theorem rebusref05_side.calls (n : Int) (w : World) : Calls Tryz.prog 67 #[.int .i64 n] w fun e w'=>e = .returned (.bool (decide (1 ≤ n) && decide (n ≤ 16))) ∧ w = w':=by
  go_enter Tryz.func67,Tryz.ntmps67
  go_wp2
  all_goals go_ret
  all_goals refine ⟨congrArg (fun x=>Ending.returned (Value.bool x)) ?_,rfl⟩
  all_goals try simp only [decide_eq_true_eq,decide_eq_false_iff_not] at *
  all_goals first
    | (rw [decide_eq_false (by omega : ¬ 1 ≤ n)];rfl)
    | (rw [decide_eq_true (by omega : 1 ≤ n)];simp)
structure Dims (H W : Int) (bl ri be : List Bool) : Prop where
  h1 : 1 ≤ H
  h2 : H ≤ 16
  w1 : 1 ≤ W
  w2 : W ≤ 16
  b : (bl.length : Int) = H * W
  r : (ri.length : Int) = H * W
  e : (be.length : Int) = H * W
  n : H * W ≤ 256
theorem Dims.mk2 {H W : Int} {bl ri be : List Bool} (h1 : gsides H W = true) (h2 : gsizes H W bl ri be = true) : Dims H W bl ri be:=by
  simp only [gsides,gsizes,Bool.and_eq_true,decide_eq_true_eq] at h1 h2
  exact ⟨h1.1.1,h1.1.2,h1.2.1,h1.2.2,h2.1,h2.2.1,h2.2.2,Int.mul_le_mul h1.1.2 h1.2.2 (by omega) (by omega)⟩
theorem Dims.of {H W : Int} {bl ri be : List Bool} (h : gcheck H W bl ri be = 0) : Dims H W bl ri be:=by
  unfold gcheck at h
  split at h
  · cases h
  · rename_i h1
    split at h
    · cases h
    · rename_i h2
      exact Dims.mk2 (by simpa using h1) (by simpa using h2)
theorem gbads_step {H W : Int} {bl ri be : List Bool} {n i : Nat} (hi : i < n) : gbads H W bl ri be (n - i) i = (gbad H W bl ri be i || gbads H W bl ri be (n - (i + 1)) (i + 1)):=by
  obtain ⟨d,hd⟩ : ∃ d,n - i = d + 1:=⟨n - i - 1,by omega⟩
  rw [hd,show n - (i + 1) = d by omega]
  rfl
theorem place_facts {H W q : Int} (hW : 1 ≤ W) (h0 : 0 ≤ q) (h1 : q < H * W) : ∃ d m,q / W = d ∧ q % W = m ∧ 0 ≤ d ∧ d < H ∧ 0 ≤ m ∧ m < W ∧ d ≤ q ∧ (m + 1 < W → q + 1 < H * W) ∧ (d + 1 < H → q + W < H * W) ∧ (0 < m → 0 ≤ q - 1) ∧ (0 < d → 0 ≤ q - W):=by
  obtain ⟨d,hd⟩ : ∃ d,q / W = d:=⟨_,rfl⟩
  obtain ⟨m,hm⟩ : ∃ m,q % W = m:=⟨_,rfl⟩
  have hm0 : 0 ≤ m:=by rw [← hm];exact Int.emod_nonneg _ (by omega)
  have hmW : m < W:=by rw [← hm];exact Int.emod_lt_of_pos _ (by omega)
  have hs:=Int.mul_ediv_add_emod q W
  rw [Int.mul_comm,hd,hm] at hs
  have hd0 : 0 ≤ d:=by rw [← hd];exact Int.ediv_nonneg h0 (by omega)
  have hdH : d < H:=by rw [← hd];exact Int.ediv_lt_of_lt_mul (by omega) h1
  have hdq : d * 1 ≤ d * W:=Int.mul_le_mul_of_nonneg_left hW hd0
  have hx : (d + 1) * W ≤ H * W:=Int.mul_le_mul_of_nonneg_right (by omega) (by omega)
  rw [Int.add_mul,Int.one_mul] at hx
  refine ⟨d,m,hd,hm,hd0,hdH,hm0,hmW,by omega,fun _=>by omega,fun h=>?_,fun _=>?_,fun h=>?_⟩
  · have hy : (d + 1 + 1) * W ≤ H * W:=Int.mul_le_mul_of_nonneg_right (by omega) (by omega)
    rw [Int.add_mul,Int.add_mul,Int.one_mul] at hy
    omega
  · have : 0 ≤ d * W:=Int.mul_nonneg hd0 (by omega)
    omega
  · have hy : 1 * W ≤ d * W:=Int.mul_le_mul_of_nonneg_right (by omega) (by omega)
    rw [Int.one_mul] at hy
    omega
set_option maxHeartbeats 8000000 in
set_option maxRecDepth 1000000 in
theorem rebusref05_barred.calls {H W : Int} {A2 : Option Addr} {c2 : Nat} {bl : List Bool} {A3 : Option Addr} {c3 : Nat} {ri : List Bool} {A4 : Option Addr} {c4 : Nat} {be : List Bool} {w : World} (h : GridC A2 c2 bl A3 c3 ri A4 c4 be w) (hd : Dims H W bl ri be) :
    Calls Tryz.prog 68 #[.agg #[.int .i64 H,.int .i64 W,.slice A2 bl.length c2,.slice A3 ri.length c3,.slice A4 be.length c4]] w fun e w'=>e = .returned (.bool (gbads H W bl ri be bl.length 0)) ∧ Below w.heap.size w w':=by
  have hx:=box1 w (.cells #[.int .i64 H,.int .i64 W,.slice A2 bl.length c2,.slice A3 ri.length c3,.slice A4 be.length c4] 24)
  replace hx:=Lib.hid hx
  have hu24:=Tryz.underlying24
  have hH1:=hd.h1
  have hH2:=hd.h2
  have hW1:=hd.w1
  have hW2:=hd.w2
  have hnn:=hd.n
  have hbl:=hd.b
  have hri:=hd.r
  have hbe:=hd.e
  obtain ⟨n,hn⟩ : ∃ n,H * W = n:=⟨_,rfl⟩
  have hn0 : 0 ≤ n:=by rw [← hn];exact Int.mul_nonneg (by omega) (by omega)
  rw [hn] at hnn hbl hri hbe
  have hwn : wrap64 (H * W) = n:=by rw [hn];exact w64 (by omega) (by omega)
  replace hn:=Lib.hid hn
  clear hd
  go_enter Tryz.func68,Tryz.ntmps68
  go_wp2
  generalize w.alloc (.cells #[.int .i64 H,.int .i64 W,.slice A2 bl.length c2,.slice A3 ri.length c3,.slice A4 be.length c4] 24) = w1 at hx ⊢
  go_loopw [3] (fun v3 wr=>∃ (i : Nat) (q : Int),v3 = .int .i64 q ∧ Hid (q = i ∧ i ≤ bl.length) ∧ Hid (gbads H W bl ri be bl.length 0 = gbads H W bl ri be (bl.length - i) i) ∧ Hid (Below w1.heap.size w1 wr)) (fun v3 _=>bl.length - (intOf v3).toNat)
  case atStart=>exact ⟨0,0,rfl,Lib.hid ⟨rfl,Nat.zero_le _⟩,Lib.hid rfl,Lib.hid (Below.refl _ _)⟩
  case round =>
    obtain ⟨i,q,rfl,hq,hg,hB⟩:=hrel
    obtain ⟨b0,b1,b2,b3,b4⟩:=cells5 (blk_below hx.out.1 hB.out)
    have hc:=(h.below hx.out.2).below hB.out
    by_cases hlt : i < bl.length
    · have hq0 : 0 ≤ q:=by have:=hq.out;omega
      have hq1 : q < n:=by have:=hq.out;omega
      obtain ⟨d,m,ed,em,hd0,hdH,hm0,hmW,hdq,k1,k2,_,_⟩:=place_facts (H:=H) hW1 hq0 (by rw [hn.out];exact hq1)
      rw [hn.out] at k1 k2
      have hdw : wrap64 (q.tdiv W) = d:=by rw [Int.tdiv_eq_ediv_of_nonneg hq0,ed];exact w64 (by omega) (by omega)
      have hmw : wrap64 (q.tmod W) = m:=by rw [Int.tmod_eq_emod_of_nonneg hq0,em];exact w64 (by omega) (by omega)
      have hgs:=gbads_step (H:=H) (W:=W) (bl:=bl) (ri:=ri) (be:=be) hlt
      have egb : gbad H W bl ri be (i : Int) = ((rdOf false ri q && (rdOf false bl q || (m == W - 1) || rdOf false bl (q + 1))) || (rdOf false be q && (rdOf false bl q || (d == H - 1) || rdOf false bl (q + W)))):=by
        unfold gbad
        rw [← hq.out.1,em,ed]
        rfl
      rw [egb] at hgs
      clear egb
      obtain ⟨a2,e2,z2⟩:=Kd.at_bool hc.h2 q hq0 (by omega)
      obtain ⟨a3,e3,z3⟩:=Kd.at_bool hc.h3 q hq0 (by omega)
      obtain ⟨a4,e4,z4⟩:=Kd.at_bool hc.h4 q hq0 (by omega)
      cases e2
      cases e3
      cases e4
      replace hgs:=Lib.hid hgs
      replace hlt:=Lib.hid hlt
      obtain ⟨rr,hrr⟩ : ∃ x,rdOf false ri q = x:=⟨_,rfl⟩
      obtain ⟨bb,hbb⟩ : ∃ x,rdOf false bl q = x:=⟨_,rfl⟩
      obtain ⟨ee,hee⟩ : ∃ x,rdOf false be q = x:=⟨_,rfl⟩
      replace hgs:=hgs.out
      rw [hrr,hbb,hee] at hgs
      rw [hrr] at z3
      rw [hbb] at z2
      rw [hee] at z4
      replace hgs:=Lib.hid hgs
      clear hrr hbb hee
      cases rr with
      | false =>
        cases ee with
        | false =>
          have hv : gbads H W bl ri be bl.length 0 = gbads H W bl ri be (bl.length - (i + 1)) (i + 1):=by rw [hg.out,hgs.out];simp []
          replace hv:=Lib.hid hv
          go_wp2
          go_quiet (fail)
          go_wp2
          go_quiet (fail)
          go_wp2
          refine ⟨⟨i + 1,q + 1,rfl,Lib.hid ⟨by have:=hq.out;omega,hlt.out⟩,hv,Lib.hid (by first | exact pw_below_drewN hB.out _ | exact pw_below_drewN (pw_below_drewN hB.out _) _)⟩,?_⟩
          simp only [intOf];have:=hq.out;have:=hlt.out;omega
        | true =>
          cases bb with
          | true =>
            have hv : gbads H W bl ri be bl.length 0 = true:=by rw [hg.out,hgs.out];simp []
            replace hv:=Lib.hid hv
            go_wp2
            go_quiet (fail)
            go_wp2
            go_quiet (fail)
            go_wp2
            go_ret
            exact ⟨by rw [hv.out];rfl,by first | exact pw_below_drewN (below_step hx.out.2 hB.out) _ | exact pw_below_drewN (pw_below_drewN (below_step hx.out.2 hB.out) _) _⟩
          | false =>
            by_cases hdd : d = H - 1
            · have t2 : (d == H - 1) = true:=by simpa using hdd
              clear hdd
              have hv : gbads H W bl ri be bl.length 0 = true:=by rw [hg.out,hgs.out];simp [t2]
              replace hv:=Lib.hid hv
              go_wp2
              go_quiet (fail)
              go_wp2
              go_quiet (fail)
              go_wp2
              go_ret
              exact ⟨by rw [hv.out];rfl,by first | exact pw_below_drewN (below_step hx.out.2 hB.out) _ | exact pw_below_drewN (pw_below_drewN (below_step hx.out.2 hB.out) _) _⟩
            · have t2 : (d == H - 1) = false:=by simpa using hdd
              obtain ⟨a6,e6,z6⟩:=Kd.at_bool hc.h2 (q + W) (by omega) (by have:=k2 (by omega);omega)
              cases e6
              obtain ⟨b2,hb2⟩ : ∃ x,rdOf false bl (q + W) = x:=⟨_,rfl⟩
              rw [hb2] at z6
              have k3 : q + W < n:=k2 (by omega)
              clear hdd
              cases b2 with
              | true =>
                have hv : gbads H W bl ri be bl.length 0 = true:=by rw [hg.out,hgs.out];simp [t2,hb2]
                replace hv:=Lib.hid hv
                go_wp2
                go_quiet (fail)
                go_wp2
                go_quiet (fail)
                go_wp2
                go_ret
                exact ⟨by rw [hv.out];rfl,by first | exact pw_below_drewN (below_step hx.out.2 hB.out) _ | exact pw_below_drewN (pw_below_drewN (below_step hx.out.2 hB.out) _) _⟩
              | false =>
                have hv : gbads H W bl ri be bl.length 0 = gbads H W bl ri be (bl.length - (i + 1)) (i + 1):=by rw [hg.out,hgs.out];simp [t2,hb2]
                replace hv:=Lib.hid hv
                go_wp2
                go_quiet (fail)
                go_wp2
                go_quiet (fail)
                go_wp2
                refine ⟨⟨i + 1,q + 1,rfl,Lib.hid ⟨by have:=hq.out;omega,hlt.out⟩,hv,Lib.hid (by first | exact pw_below_drewN hB.out _ | exact pw_below_drewN (pw_below_drewN hB.out _) _)⟩,?_⟩
                simp only [intOf];have:=hq.out;have:=hlt.out;omega
      | true =>
        cases bb with
        | true =>
          have hv : gbads H W bl ri be bl.length 0 = true:=by rw [hg.out,hgs.out];simp []
          replace hv:=Lib.hid hv
          go_wp2
          go_quiet (fail)
          go_wp2
          go_ret
          exact ⟨by rw [hv.out];rfl,by first | exact pw_below_drewN (below_step hx.out.2 hB.out) _ | exact pw_below_drewN (pw_below_drewN (below_step hx.out.2 hB.out) _) _⟩
        | false =>
          by_cases hmm : m = W - 1
          · have t1 : (m == W - 1) = true:=by simpa using hmm
            clear hmm
            have hv : gbads H W bl ri be bl.length 0 = true:=by rw [hg.out,hgs.out];simp [t1]
            replace hv:=Lib.hid hv
            go_wp2
            go_quiet (fail)
            go_wp2
            go_ret
            exact ⟨by rw [hv.out];rfl,by first | exact pw_below_drewN (below_step hx.out.2 hB.out) _ | exact pw_below_drewN (pw_below_drewN (below_step hx.out.2 hB.out) _) _⟩
          · have t1 : (m == W - 1) = false:=by simpa using hmm
            obtain ⟨a5,e5,z5⟩:=Kd.at_bool hc.h2 (q + 1) (by omega) (by have:=k1 (by omega);omega)
            cases e5
            obtain ⟨b1,hb1⟩ : ∃ x,rdOf false bl (q + 1) = x:=⟨_,rfl⟩
            rw [hb1] at z5
            have k4 : q + 1 < n:=k1 (by omega)
            clear hmm
            cases b1 with
            | true =>
              have hv : gbads H W bl ri be bl.length 0 = true:=by rw [hg.out,hgs.out];simp [t1,hb1]
              replace hv:=Lib.hid hv
              go_wp2
              go_quiet (fail)
              go_wp2
              go_ret
              exact ⟨by rw [hv.out];rfl,by first | exact pw_below_drewN (below_step hx.out.2 hB.out) _ | exact pw_below_drewN (pw_below_drewN (below_step hx.out.2 hB.out) _) _⟩
            | false =>
              cases ee with
              | false =>
                have hv : gbads H W bl ri be bl.length 0 = gbads H W bl ri be (bl.length - (i + 1)) (i + 1):=by rw [hg.out,hgs.out];simp [t1,hb1]
                replace hv:=Lib.hid hv
                go_wp2
                go_quiet (fail)
                go_wp2
                go_quiet (fail)
                go_wp2
                refine ⟨⟨i + 1,q + 1,rfl,Lib.hid ⟨by have:=hq.out;omega,hlt.out⟩,hv,Lib.hid (by first | exact pw_below_drewN hB.out _ | exact pw_below_drewN (pw_below_drewN hB.out _) _)⟩,?_⟩
                simp only [intOf];have:=hq.out;have:=hlt.out;omega
              | true =>
                by_cases hdd : d = H - 1
                · have t2 : (d == H - 1) = true:=by simpa using hdd
                  clear hdd
                  have hv : gbads H W bl ri be bl.length 0 = true:=by rw [hg.out,hgs.out];simp [t1,hb1,t2]
                  replace hv:=Lib.hid hv
                  go_wp2
                  go_quiet (fail)
                  go_wp2
                  go_quiet (fail)
                  go_wp2
                  go_ret
                  exact ⟨by rw [hv.out];rfl,by first | exact pw_below_drewN (below_step hx.out.2 hB.out) _ | exact pw_below_drewN (pw_below_drewN (below_step hx.out.2 hB.out) _) _⟩
                · have t2 : (d == H - 1) = false:=by simpa using hdd
                  obtain ⟨a6,e6,z6⟩:=Kd.at_bool hc.h2 (q + W) (by omega) (by have:=k2 (by omega);omega)
                  cases e6
                  obtain ⟨b2,hb2⟩ : ∃ x,rdOf false bl (q + W) = x:=⟨_,rfl⟩
                  rw [hb2] at z6
                  have k3 : q + W < n:=k2 (by omega)
                  clear hdd
                  cases b2 with
                  | true =>
                    have hv : gbads H W bl ri be bl.length 0 = true:=by rw [hg.out,hgs.out];simp [t1,hb1,t2,hb2]
                    replace hv:=Lib.hid hv
                    go_wp2
                    go_quiet (fail)
                    go_wp2
                    go_quiet (fail)
                    go_wp2
                    go_ret
                    exact ⟨by rw [hv.out];rfl,by first | exact pw_below_drewN (below_step hx.out.2 hB.out) _ | exact pw_below_drewN (pw_below_drewN (below_step hx.out.2 hB.out) _) _⟩
                  | false =>
                    have hv : gbads H W bl ri be bl.length 0 = gbads H W bl ri be (bl.length - (i + 1)) (i + 1):=by rw [hg.out,hgs.out];simp [t1,hb1,t2,hb2]
                    replace hv:=Lib.hid hv
                    go_wp2
                    go_quiet (fail)
                    go_wp2
                    go_quiet (fail)
                    go_wp2
                    refine ⟨⟨i + 1,q + 1,rfl,Lib.hid ⟨by have:=hq.out;omega,hlt.out⟩,hv,Lib.hid (by first | exact pw_below_drewN hB.out _ | exact pw_below_drewN (pw_below_drewN hB.out _) _)⟩,?_⟩
                    simp only [intOf];have:=hq.out;have:=hlt.out;omega
    · have hge : ¬ q < n:=by have:=hq.out;omega
      have hv : gbads H W bl ri be bl.length 0 = false:=by rw [hg.out,show bl.length - i = 0 by have:=hq.out;omega];rfl
      replace hv:=Lib.hid hv
      go_wp2
      go_ret
      exact ⟨by rw [hv.out];rfl,below_step hx.out.2 hB.out⟩
end Go.Proofs.YtkblbggmpahljaaGreatDoor.Q
end
section
namespace Go.Proofs.YtkblbggmpahljaaGreatDoor.Q
open Go.RowKit Go.Proofs.YtkblbggmpahljaaGreatDoorW.PrintWords Go.Proofs.YtkblbggmpahljaaGreatDoorW.PrintLast Go.Proofs.YtkblbggmpahljaaGreatDoorW.PrintMore
set_option linter.unusedVariables false
set_option linter.unusedSimpArgs false
open Go.Proofs.YtkblbggmpahljaaGreatDoorS
set_option maxHeartbeats 4000000 in
set_option maxRecDepth 1000000 in
theorem side2_calls {H W : Int} {A2 : Option Addr} {c2 : Nat} {bl : List Bool} {A3 : Option Addr} {c3 : Nat} {ri : List Bool} {A4 : Option Addr} {c4 : Nat} {be : List Bool} {i : Int} {w : World} (h : GridC A2 c2 bl A3 c3 ri A4 c4 be w) (hg : gcheck H W bl ri be = 0) (h0 : 0 ≤ i) (h1 : i < bl.length) :
    Calls Tryz.prog 26 #[.agg #[.int .i64 H,.int .i64 W,.slice A2 bl.length c2,.slice A3 ri.length c3,.slice A4 be.length c4],.int .i64 i] w fun e w'=>e = .returned (.string (sideB W ri i)) ∧ Below w.heap.size w w':=by
  obtain ⟨hH,hW,hl⟩:=gcheck_ok hg
  have hn:=(mul_small hH hW).2
  obtain ⟨em,m0,mW,mi⟩:=pg_rem h0 hW.1
  have hx:=box1 w (.cells #[.int .i64 H,.int .i64 W,.slice A2 bl.length c2,.slice A3 ri.length c3,.slice A4 be.length c4] 24)
  obtain ⟨b0,b1,b2,b3,b4⟩:=GridBox.of hx.1
  have hC:=(h.below hx.2).h3
  have hB:=Lib.hid hx.2
  clear hx
  obtain ⟨m,hm⟩ : ∃ m,i % W = m:=⟨_,rfl⟩
  have hv : sideB W ri i = if 0 < m ∧ rdOf false ri (i - 1) = true then ⟨#[35]⟩ else ⟨#[124]⟩:=by unfold sideB;rw [hm];rfl
  rw [hm] at em m0 mW mi
  have hW0 : W ≠ 0:=by omega
  by_cases hp : 0 < m
  · have hi1:=mi hp
    have ew : wrap64 (i - 1) = i - 1:=w64 (by omega) (by omega)
    have hq : i - 1 < (ri.length : Int):=by omega
    obtain ⟨ad,eA,z⟩:=Kd.at_bool hC (i - 1) (by omega) hq
    cases eA
    obtain ⟨bb,hbb⟩ : ∃ x,rdOf false ri (i - 1) = x:=⟨_,rfl⟩
    rw [hbb] at z hv
    rw [show (i - 1).toNat = i.toNat - 1 from by omega] at z
    clear hbb hm mi hC h
    cases bb with
    | true =>
      rw [if_pos ⟨hp,rfl⟩] at hv
      rw [hv]
      clear hv
      go_enter Tryz.func26,Tryz.ntmps26
      go_wp2
      go_ret
      exact ⟨rfl,hB.out⟩
    | false =>
      rw [if_neg (fun h=>by cases h.2)] at hv
      rw [hv]
      clear hv
      go_enter Tryz.func26,Tryz.ntmps26
      go_wp2
      go_ret
      exact ⟨rfl,hB.out⟩
  · rw [if_neg (fun h=>hp h.1)] at hv
    rw [hv]
    clear hv hm mi hC h
    go_enter Tryz.func26,Tryz.ntmps26
    go_wp2
    go_ret
    exact ⟨rfl,hB.out⟩
theorem one_digit {d : Nat} (h : d < 10) : strOfNums [wrap64 (48 + (d : Int)) % 256] = ⟨#[UInt8.ofNat (48 + d)]⟩:=by
  rw [w64 (by omega) (by omega)]
  have e : (48 + (d : Int)) % 256 = (((UInt8.ofNat (48 + d)).toNat : Nat) : Int):=by
    rw [UInt8.toNat_ofNat']
    omega
  rw [e]
  exact Lib.Lz.strOfNums_map [UInt8.ofNat (48 + d)]
theorem decimal_eq (n : Nat) (h : n ≤ 9223372036854775807) : ∀ k,n < k → rebusref07_Decimal.f k (n : Int) = some ⟨(Lib.decDigits n).toArray⟩:=by
  induction n using Nat.strongRecOn with
  | ind n ih =>
    intro k hk
    obtain ⟨k,rfl⟩ : ∃ m,k = m + 1:=⟨k - 1,by omega⟩
    simp only [rebusref07_Decimal.f]
    by_cases hn : n < 10
    · rw [if_pos (show (n : Int) < 10 by omega),one_digit hn,Lib.decDigits,dif_pos hn]
    · have e1 : Int.tdiv (n : Int) 10 = ((n / 10 : Nat) : Int):=(Int.ofNat_tdiv n 10).symm
      have e2 : Int.tmod (n : Int) 10 = ((n % 10 : Nat) : Int):=(Int.ofNat_tmod n 10).symm
      have hl:=pdec_len 18 (n / 10) (by omega)
      rw [if_neg (show ¬ (n : Int) < 10 by omega),e1,e2,w64 (by omega) (by omega),ih (n / 10) (by omega) (by omega) k (by omega)]
      simp only [Option.bind_some]
      rw [one_digit (Nat.mod_lt n (by omega))]
      have hs : (⟨(Lib.decDigits (n / 10)).toArray⟩ : ByteArray).size = (Lib.decDigits (n / 10)).length:=by show (Lib.decDigits (n / 10)).toArray.size = _;rw [List.size_toArray]
      rw [if_pos (by rw [hs];show _ + 1 ≤ _;omega)]
      congr 1
      rw [← ba_of_list2 (_ ++ _),bap]
      show (⟨(Lib.decDigits (n / 10) ++ [UInt8.ofNat (48 + n % 10)]).toArray⟩ : ByteArray) = ⟨(Lib.decDigits n).toArray⟩
      conv=>rhs;rw [Lib.decDigits,dif_neg hn]
theorem itoa_nat {n : Int} (h1 : 1 ≤ n) : itoaB n = ⟨(Lib.decDigits n.toNat).toArray⟩:=by
  unfold itoaB Lib.itoa
  rw [if_neg (by omega)]
theorem decimal_calls {n : Int} (h1 : 1 ≤ n) (h2 : n ≤ 256) (w : World) : Calls Tryz.prog 46 #[.int .i64 n] w fun e w'=>e = .returned (.string (itoaB n)) ∧ Below w.heap.size w w':=by
  have h:=decimal_eq n.toNat (by omega) (n.toNat + 1) (by omega)
  rw [show ((n.toNat : Nat) : Int) = n from by omega,← itoa_nat h1] at h
  exact rebusref07_Decimal.calls _ n _ w h
theorem numB_found {L : List S43} {i : Int} {m : Nat} (hm : m < L.length) (hno : ∀ x ∈ L.take m,rd x.f2 0 ≠ i) (h : rd L[m].f2 0 = i) : numB L i = itoaB L[m].f0:=by
  unfold numB
  have e : L.find? (fun x=>rd x.f2 0 == i) = some L[m]:=by
    conv=>lhs;rw [← List.take_append_drop m L,List.drop_eq_getElem_cons hm]
    rw [List.find?_append,List.find?_eq_none.2 (fun x hx=>by simpa using hno x hx),List.find?_cons]
    have : (rd L[m].f2 0 == i) = true:=by rw [h];simp
    rw [this]
    rfl
  rw [e]
theorem numB_none {L : List S43} {i : Int} (hno : ∀ x ∈ L,rd x.f2 0 ≠ i) : numB L i = ⟨#[]⟩:=by
  unfold numB
  rw [List.find?_eq_none.2 (fun x hx=>by simpa using hno x hx)]
set_option maxHeartbeats 4000000 in
set_option maxRecDepth 1000000 in
theorem number2_calls {L : List S43} {AL : Option Addr} {cL : Nat} {i : Int} {w : World} (hC : Kd.C k43 w AL L.length L) (hl : L.length ≤ 512) (hf : ∀ x ∈ L,1 ≤ x.f2.length) (hn : ∀ x ∈ L,1 ≤ x.f0 ∧ x.f0 ≤ 256) :
    Calls Tryz.prog 27 #[.slice AL L.length cL,.int .i64 i] w fun e w'=>e = .returned (.string (padB (numB L i))) ∧ Below w.heap.size w w':=by
  replace hf:=Lib.hid hf
  replace hn:=Lib.hid hn
  replace hC:=Lib.hid hC
  go_enter Tryz.func27,Tryz.ntmps27
  go_wp2
  go_loopw [5] (fun v5 wr=>∃ (m : Nat) (q : Int),v5 = .int .i64 q ∧ Hid (q = m ∧ m ≤ L.length) ∧ Hid (∀ x ∈ L.take m,rd x.f2 0 ≠ i) ∧ Hid (Below w.heap.size w wr)) (fun v5 _=>L.length - (intOf v5).toNat)
  case atStart=>exact ⟨0,0,rfl,Lib.hid ⟨rfl,Nat.zero_le _⟩,Lib.hid (fun x hx=>by simp at hx),Lib.hid (Below.refl _ _)⟩
  case round =>
    obtain ⟨m,q,rfl,hq,hno,hB⟩:=hrel
    by_cases hlt : m < L.length
    · have tlt : decide (q < (L.length : Int)) = true:=decide_eq_true (by have:=hq.out;omega)
      have hq0 : 0 ≤ q:=by have:=hq.out;omega
      have hq1 : q < (L.length : Int):=by have:=hq.out;omega
      obtain ⟨ad,Ax,cx,eA,z0,z1,z2,zc,hCx⟩:=at_T43 (Kd.C_below hC.out hB.out) q hq0 hq1
      cases eA
      have ex : rd_T43 L q = L[m]:=by
        unfold rd_T43
        rw [List.getD_eq_getElem?_getD,show q.toNat = m by have:=hq.out;omega,List.getElem?_eq_getElem hlt]
        rfl
      have hfm:=hf.out _ (List.getElem_mem hlt)
      have hnm:=hn.out _ (List.getElem_mem hlt)
      have hfo:=fun h=>numB_found (i:=i) hlt hno.out h
      have hnx : rd L[m].f2 0 ≠ i → ∀ x ∈ L.take (m + 1),rd x.f2 0 ≠ i:=fun h x hx=>by
        rw [List.take_succ_eq_append_getElem hlt] at hx
        rcases List.mem_append.1 hx with hx | hx
        · exact hno.out x hx
        · rw [List.mem_singleton.1 hx];exact h
      rw [ex] at z0 z1 z2 zc hCx
      obtain ⟨x,hx⟩ : ∃ x,L[m] = x:=⟨_,rfl⟩
      rw [hx] at z0 z1 z2 zc hCx hfm hnm hfo hnx
      obtain ⟨adx,eAx,zx⟩:=Kd.at_int hCx 0 (Int.le_refl _) (by omega)
      cases eAx
      obtain ⟨k,hk⟩ : ∃ k,rd x.f2 0 = k:=⟨_,rfl⟩
      rw [hk] at zx hfo hnx
      replace zx : wr.cell? adx = some (.int .i64 k):=zx
      have hx20 : 0 < x.f2.length:=by omega
      clear hCx z1 ex hx
      replace hlt:=Lib.hid hlt
      by_cases hki : k = i
      · have tk : (k == i) = true:=by rw [hki];simp
        have hE:=Lib.hid (hfo hki)
        have hno1:=num_ok hnm.1 hnm.2
        have hps : padB (itoaB x.f0) = padB (numB L i):=by rw [hE.out]
        replace hps:=Lib.hid hps
        replace hno1:=Lib.hid hno1
        replace hnm:=Lib.hid hnm
        clear hfo hnx hki hE
        go_wp2_with (first
          | (go_at_call 46;go_must (refine (decimal_calls hnm.out.1 hnm.out.2 _).mono ?_;rintro e w2 ⟨rfl,hb2⟩;have hB2:=Lib.hid (hB.out.trans (hb2.mono hB.out.size));clear hb2))
          | (go_at_call 45;go_must (refine (pad2_calls (by have:=hno1.out.1;omega) hno1.out.2 hno1.out.1 _).mono ?_;rintro e w3 ⟨rfl,hb3⟩;have hB3:=Lib.hid (hB2.out.trans (hb3.mono hB2.out.size));clear hb3)))
        go_ret
        exact ⟨by rw [← hps.out];rfl,hB3.out⟩
      · have tk : (k == i) = false:=by simpa using hki
        have hnx2:=Lib.hid (hnx hki)
        clear hfo hnx hki
        go_wp2
        refine ⟨⟨m + 1,q + 1,rfl,Lib.hid ⟨by have:=hq.out;omega,hlt.out⟩,hnx2,hB⟩,?_⟩
        simp only [intOf];have:=hq.out;have:=hlt.out;omega
    · have tlt : decide (q < (L.length : Int)) = false:=decide_eq_false (by have:=hq.out;omega)
      have hE : numB L i = ⟨#[]⟩:=numB_none (by have h1:=hno.out;rwa [List.take_of_length_le (by omega)] at h1)
      have hv : padB ⟨#[]⟩ = ⟨#[32,32,32]⟩:=by decide +kernel
      replace hE:=Lib.hid hE
      replace hv:=Lib.hid hv
      go_wp2
      go_ret
      exact ⟨by rw [hE.out,hv.out];rfl,hB.out⟩
end Go.Proofs.YtkblbggmpahljaaGreatDoor.Q
end
section
namespace Go.Proofs.YtkblbggmpahljaaGreatDoor.Q
open Go.RowKit Go.Proofs.YtkblbggmpahljaaGreatDoorW.PrintWords Go.Proofs.YtkblbggmpahljaaGreatDoorW.PrintLast Go.Proofs.YtkblbggmpahljaaGreatDoorW.PrintMore
set_option linter.unusedVariables false
set_option linter.unusedSimpArgs false
open Go.Proofs.YtkblbggmpahljaaGreatDoorS
set_option maxHeartbeats 8000000 in
set_option maxRecDepth 1000000 in
theorem rebusref05_Check.calls {H W : Int} {A2 : Option Addr} {c2 : Nat} {bl : List Bool} {A3 : Option Addr} {c3 : Nat} {ri : List Bool} {A4 : Option Addr} {c4 : Nat} {be : List Bool} {w : World} (h : GridC A2 c2 bl A3 c3 ri A4 c4 be w) :
    Calls Tryz.prog 41 #[.agg #[.int .i64 H,.int .i64 W,.slice A2 bl.length c2,.slice A3 ri.length c3,.slice A4 be.length c4]] w fun e w'=>e = .returned (.int .i64 (gcheck H W bl ri be)) ∧ Below w.heap.size w w':=by
  have hx:=box1 w (.cells #[.int .i64 H,.int .i64 W,.slice A2 bl.length c2,.slice A3 ri.length c3,.slice A4 be.length c4] 24)
  replace hx:=Lib.hid hx
  have hu24:=Tryz.underlying24
  obtain ⟨g0,g1,g2,g3,g4⟩:=cells5 hx.out.1
  have tok1 : True:=trivial
  have tok2 : True:=trivial
  cases hs1 : decide (1 ≤ H) && decide (H ≤ 16) with
  | false =>
    have hv : gcheck H W bl ri be = 50:=by
      have : gsides H W = false:=by
        unfold gsides
        rw [Bool.decide_and,hs1,Bool.false_and]
      unfold gcheck
      rw [if_pos this]
    rw [hv]
    clear hv
    go_enter Tryz.func41,Tryz.ntmps41
    go_wp2_with (first
      | (go_at_call 67;have tq:=tok1;go_must (clear tq tok1;refine (rebusref05_side.calls _ _).mono ?_;rintro e w2 ⟨rfl,rfl⟩;rw [hs1])))
    go_ret
    exact ⟨rfl,hx.out.2⟩
  | true =>
    cases hs2 : decide (1 ≤ W) && decide (W ≤ 16) with
    | false =>
      have hv : gcheck H W bl ri be = 50:=by
        have : gsides H W = false:=by
          unfold gsides
          simp only [Bool.decide_and]
          rw [hs1,hs2]
          rfl
        unfold gcheck
        rw [if_pos this]
      rw [hv]
      clear hv
      go_enter Tryz.func41,Tryz.ntmps41
      go_wp2_with (first
        | (go_at_call 67;have tq:=tok1;go_must (clear tq tok1;refine (rebusref05_side.calls _ _).mono ?_;rintro e w2 ⟨rfl,rfl⟩;rw [hs1]))
        | (go_at_call 67;have tq:=tok2;go_must (clear tq tok2;refine (rebusref05_side.calls _ _).mono ?_;rintro e w2 ⟨rfl,rfl⟩;rw [hs2])))
      go_ret
      exact ⟨rfl,hx.out.2⟩
    | true =>
      have hsd : gsides H W = true:=by
        simp only [Bool.and_eq_true,decide_eq_true_eq] at hs1 hs2
        unfold gsides
        rw [decide_eq_true hs1,decide_eq_true hs2]
        rfl
      have hb : 1 ≤ H ∧ H ≤ 16 ∧ 1 ≤ W ∧ W ≤ 16:=by
        simp only [Bool.and_eq_true,decide_eq_true_eq] at hs1 hs2
        omega
      obtain ⟨n,hn⟩ : ∃ n,H * W = n:=⟨_,rfl⟩
      have hn1 : n ≤ 256:=by rw [← hn];exact Int.mul_le_mul hb.2.1 hb.2.2.2 (by omega) (by omega)
      have hn0 : 0 ≤ n:=by rw [← hn];exact Int.mul_nonneg (by omega) (by omega)
      have hwn : wrap64 (H * W) = n:=by rw [hn];exact w64 (by omega) (by omega)
      replace hb:=Lib.hid hb
      by_cases h1 : (bl.length : Int) = n
      · have t1 : ((bl.length : Int) != n) = false:=by rw [h1];simp
        by_cases h2 : (ri.length : Int) = n
        · have t2 : ((ri.length : Int) != n) = false:=by rw [h2];simp
          by_cases h3 : (be.length : Int) = n
          · have t3 : ((be.length : Int) != n) = false:=by rw [h3];simp
            have hsz : gsizes H W bl ri be = true:=by unfold gsizes;rw [hn];exact decide_eq_true ⟨h1,h2,h3⟩
            have hd:=Lib.hid (Dims.mk2 hsd hsz)
            cases hgb : gbads H W bl ri be bl.length 0 with
            | true =>
              have hv : gcheck H W bl ri be = 52:=by unfold gcheck;rw [hsd,hsz,hgb];rfl
              rw [hv]
              clear hv hsd hsz h1 h2 h3
              go_enter Tryz.func41,Tryz.ntmps41
              go_wp2_with (first
                | (go_at_call 67;have tq:=tok1;go_must (clear tq tok1;refine (rebusref05_side.calls _ _).mono ?_;rintro e w2 ⟨rfl,rfl⟩;rw [hs1]))
                | (go_at_call 67;have tq:=tok2;go_must (clear tq tok2;refine (rebusref05_side.calls _ _).mono ?_;rintro e w2 ⟨rfl,rfl⟩;rw [hs2]))
                | (go_at_call 68;go_must (refine (rebusref05_barred.calls (h.below hx.out.2) hd.out).mono ?_;rintro e w3 ⟨rfl,hb3⟩;rw [hgb])))
              go_ret
              exact ⟨rfl,below_step hx.out.2 hb3⟩
            | false =>
              have hv : gcheck H W bl ri be = 0:=by unfold gcheck;rw [hsd,hsz,hgb];rfl
              rw [hv]
              clear hv hsd hsz h1 h2 h3
              go_enter Tryz.func41,Tryz.ntmps41
              go_wp2_with (first
                | (go_at_call 67;have tq:=tok1;go_must (clear tq tok1;refine (rebusref05_side.calls _ _).mono ?_;rintro e w2 ⟨rfl,rfl⟩;rw [hs1]))
                | (go_at_call 67;have tq:=tok2;go_must (clear tq tok2;refine (rebusref05_side.calls _ _).mono ?_;rintro e w2 ⟨rfl,rfl⟩;rw [hs2]))
                | (go_at_call 68;go_must (refine (rebusref05_barred.calls (h.below hx.out.2) hd.out).mono ?_;rintro e w3 ⟨rfl,hb3⟩;rw [hgb])))
              go_ret
              exact ⟨rfl,below_step hx.out.2 hb3⟩
          · have t3 : ((be.length : Int) != n) = true:=bne_iff_ne.2 h3
            have hv : gcheck H W bl ri be = 51:=by
              have : gsizes H W bl ri be = false:=by unfold gsizes;rw [hn];exact decide_eq_false (by omega)
              unfold gcheck
              rw [hsd,this]
              rfl
            rw [hv]
            clear hv hsd
            go_enter Tryz.func41,Tryz.ntmps41
            go_wp2_with (first
              | (go_at_call 67;have tq:=tok1;go_must (clear tq tok1;refine (rebusref05_side.calls _ _).mono ?_;rintro e w2 ⟨rfl,rfl⟩;rw [hs1]))
              | (go_at_call 67;have tq:=tok2;go_must (clear tq tok2;refine (rebusref05_side.calls _ _).mono ?_;rintro e w2 ⟨rfl,rfl⟩;rw [hs2])))
            go_ret
            exact ⟨rfl,hx.out.2⟩
        · have t2 : ((ri.length : Int) != n) = true:=bne_iff_ne.2 h2
          have hv : gcheck H W bl ri be = 51:=by
            have : gsizes H W bl ri be = false:=by unfold gsizes;rw [hn];exact decide_eq_false (by omega)
            unfold gcheck
            rw [hsd,this]
            rfl
          rw [hv]
          clear hv hsd
          go_enter Tryz.func41,Tryz.ntmps41
          go_wp2_with (first
            | (go_at_call 67;have tq:=tok1;go_must (clear tq tok1;refine (rebusref05_side.calls _ _).mono ?_;rintro e w2 ⟨rfl,rfl⟩;rw [hs1]))
            | (go_at_call 67;have tq:=tok2;go_must (clear tq tok2;refine (rebusref05_side.calls _ _).mono ?_;rintro e w2 ⟨rfl,rfl⟩;rw [hs2])))
          go_ret
          exact ⟨rfl,hx.out.2⟩
      · have t1 : ((bl.length : Int) != n) = true:=bne_iff_ne.2 h1
        have hv : gcheck H W bl ri be = 51:=by
          have : gsizes H W bl ri be = false:=by unfold gsizes;rw [hn];exact decide_eq_false (by omega)
          unfold gcheck
          rw [hsd,this]
          rfl
        rw [hv]
        clear hv hsd
        go_enter Tryz.func41,Tryz.ntmps41
        go_wp2_with (first
          | (go_at_call 67;have tq:=tok1;go_must (clear tq tok1;refine (rebusref05_side.calls _ _).mono ?_;rintro e w2 ⟨rfl,rfl⟩;rw [hs1]))
          | (go_at_call 67;have tq:=tok2;go_must (clear tq tok2;refine (rebusref05_side.calls _ _).mono ?_;rintro e w2 ⟨rfl,rfl⟩;rw [hs2])))
        go_ret
        exact ⟨rfl,hx.out.2⟩
set_option maxHeartbeats 8000000 in
set_option maxRecDepth 1000000 in
theorem rebusref05_Open.calls {H W : Int} {A2 : Option Addr} {c2 : Nat} {bl : List Bool} {A3 : Option Addr} {c3 : Nat} {ri : List Bool} {A4 : Option Addr} {c4 : Nat} {be : List Bool} {w : World} {i : Int} (h : GridC A2 c2 bl A3 c3 ri A4 c4 be w) :
    Calls Tryz.prog 97 #[.agg #[.int .i64 H,.int .i64 W,.slice A2 bl.length c2,.slice A3 ri.length c3,.slice A4 be.length c4],.int .i64 i] w fun e w'=>e = .returned (.bool (decide (gcheck H W bl ri be = 0) && gopen bl i)) ∧ Below w.heap.size w w':=by
  have hx:=box1 w (.cells #[.int .i64 H,.int .i64 W,.slice A2 bl.length c2,.slice A3 ri.length c3,.slice A4 be.length c4] 24)
  replace hx:=Lib.hid hx
  have hu24:=Tryz.underlying24
  by_cases hg : gcheck H W bl ri be = 0
  · have hd:=Dims.of hg
    obtain ⟨n,hn⟩ : ∃ n,H * W = n:=⟨_,rfl⟩
    have hn1 : n ≤ 256:=by rw [← hn];exact hd.n
    have hn0 : 0 ≤ n:=by rw [← hn];exact Int.mul_nonneg (by have:=hd.h1;omega) (by have:=hd.w1;omega)
    have hwn : wrap64 (H * W) = n:=by rw [hn];exact w64 (by omega) (by omega)
    have hbn : (bl.length : Int) = n:=by rw [← hn];exact hd.b
    rw [decide_eq_true hg,Bool.true_and]
    clear hd hn
    replace hg:=Lib.hid hg
    by_cases h0 : 0 ≤ i
    · by_cases h1 : i < n
      · obtain ⟨ad,e2,z2⟩:=Kd.at_bool (h.below hx.out.2).h2 i h0 (by omega)
        cases e2
        have hv : gopen bl i = !rdOf false bl i:=by unfold gopen;rw [decide_eq_true ⟨h0,by omega⟩,Bool.true_and];rfl
        rw [hv]
        clear hv
        obtain ⟨bb,hbb⟩ : ∃ x,rdOf false bl i = x:=⟨_,rfl⟩
        rw [hbb] at z2 ⊢
        clear hbb
        cases bb with
        | true =>
          go_enter Tryz.func97,Tryz.ntmps97
          go_wp2_with (first
            | (go_at_call 41;go_must (refine (rebusref05_Check.calls (h.below hx.out.2)).mono ?_;rintro e w3 ⟨rfl,hb3⟩;rw [hg.out];have hc:=cells5 (blk_below hx.out.1 hb3);have z2:=pw_cell_below hb3 z2)))
          go_ret
          exact ⟨rfl,below_step hx.out.2 hb3⟩
        | false =>
          go_enter Tryz.func97,Tryz.ntmps97
          go_wp2_with (first
            | (go_at_call 41;go_must (refine (rebusref05_Check.calls (h.below hx.out.2)).mono ?_;rintro e w3 ⟨rfl,hb3⟩;rw [hg.out];have hc:=cells5 (blk_below hx.out.1 hb3);have z2:=pw_cell_below hb3 z2)))
          go_ret
          exact ⟨rfl,below_step hx.out.2 hb3⟩
      · have hv : gopen bl i = false:=by unfold gopen;rw [decide_eq_false (by omega)];rfl
        rw [hv]
        clear hv
        go_enter Tryz.func97,Tryz.ntmps97
        go_wp2_with (first
          | (go_at_call 41;go_must (refine (rebusref05_Check.calls (h.below hx.out.2)).mono ?_;rintro e w3 ⟨rfl,hb3⟩;rw [hg.out];have hc:=cells5 (blk_below hx.out.1 hb3))))
        go_ret
        exact ⟨rfl,below_step hx.out.2 hb3⟩
    · have hv : gopen bl i = false:=by unfold gopen;rw [decide_eq_false (by omega)];rfl
      rw [hv]
      clear hv
      go_enter Tryz.func97,Tryz.ntmps97
      go_wp2_with (first
        | (go_at_call 41;go_must (refine (rebusref05_Check.calls (h.below hx.out.2)).mono ?_;rintro e w3 ⟨rfl,hb3⟩;rw [hg.out];have hc:=cells5 (blk_below hx.out.1 hb3))))
      go_ret
      exact ⟨rfl,below_step hx.out.2 hb3⟩
  · rw [decide_eq_false hg,Bool.false_and]
    have tg : (gcheck H W bl ri be == 0) = false:=by simpa using hg
    go_enter Tryz.func97,Tryz.ntmps97
    go_wp2_with (first
      | (go_at_call 41;go_must (refine (rebusref05_Check.calls (h.below hx.out.2)).mono ?_;rintro e w3 ⟨rfl,hb3⟩)))
    go_ret
    exact ⟨rfl,below_step hx.out.2 hb3⟩
end Go.Proofs.YtkblbggmpahljaaGreatDoor.Q
end
section
namespace Go.Proofs.YtkblbggmpahljaaGreatDoor.Q
open Go.RowKit Go.Proofs.YtkblbggmpahljaaGreatDoorW.PrintWords Go.Proofs.YtkblbggmpahljaaGreatDoorW.PrintLast Go.Proofs.YtkblbggmpahljaaGreatDoorW.PrintMore
set_option linter.unusedVariables false
set_option linter.unusedSimpArgs false
open Go.Proofs.YtkblbggmpahljaaGreatDoorS
def rstep (c : Bool) (bar : Bool) (blk : Bool) (j : Int) : Int × Bool:=if c then (if bar then (0,false) else if blk then (0,false) else (j,true)) else (0,false)
theorem gstep_ref {H W q d m : Int} {bl ri be : List Bool} (hW : 1 ≤ W) (hd : q / W = d) (hm : q % W = m) (hd0 : 0 ≤ d) (hdH : d < H) (hm0 : 0 ≤ m) (hmW : m < W) (hs : d * W + m = q) :
    gstep H W bl ri be q 0 = rstep (decide (m < W - 1)) (rdOf false ri q) (rdOf false bl (q + 1)) (q + 1) ∧
    gstep H W bl ri be q 1 = rstep (decide (d < H - 1)) (rdOf false be q) (rdOf false bl (q + W)) (q + W) ∧
    gstep H W bl ri be q 2 = rstep (decide (0 < m)) (rdOf false ri (q - 1)) (rdOf false bl (q - 1)) (q - 1) ∧
    gstep H W bl ri be q 3 = rstep (decide (0 < d)) (rdOf false be (q - W)) (rdOf false bl (q - W)) (q - W):=by
  have e0 : gby 0 = (0,1):=rfl
  have e1 : gby 1 = (1,0):=rfl
  have e2 : gby 2 = (0,-1):=rfl
  have e3 : gby 3 = (-1,0):=rfl
  have x1 : (d + 1) * W = d * W + W:=by rw [Int.add_mul,Int.one_mul]
  have x2 : (d + -1) * W = d * W - W:=by rw [Int.add_mul];omega
  refine ⟨?_,?_,?_,?_⟩
  · unfold gstep rstep
    rw [e0,hd,hm]
    simp only [Int.add_zero]
    rw [show d * W + (m + 1) = q + 1 by omega,show min q (q + 1) = q by omega]
    by_cases hc : m < W - 1
    · rw [if_neg (by omega),decide_eq_true hc,if_pos rfl]
      show (if rdOf false bl (q + 1) = true then _ else _) = _
      cases rdOf false bl (q + 1) <;> cases hr : rdOf false ri q <;> simp [gat,rdOf,hr] at hr ⊢ <;> simp [hr]
    · rw [if_pos (by omega),decide_eq_false hc];rfl
  · unfold gstep rstep
    rw [e1,hd,hm]
    simp only [Int.add_zero]
    rw [x1,show d * W + W + m = q + W by omega,show min q (q + W) = q by omega]
    by_cases hc : d < H - 1
    · rw [if_neg (by omega),decide_eq_true hc,if_pos rfl]
      show (if rdOf false bl (q + W) = true then _ else _) = _
      cases rdOf false bl (q + W) <;> cases hr : rdOf false be q <;> simp [gat,rdOf,hr] at hr ⊢ <;> simp [hr]
    · rw [if_pos (by omega),decide_eq_false hc];rfl
  · unfold gstep rstep
    rw [e2,hd,hm]
    simp only [Int.add_zero]
    rw [show d * W + (m + -1) = q - 1 by omega,show min q (q - 1) = q - 1 by omega]
    by_cases hc : 0 < m
    · rw [if_neg (by omega),decide_eq_true hc,if_pos rfl]
      show (if rdOf false bl (q - 1) = true then _ else _) = _
      cases rdOf false bl (q - 1) <;> cases hr : rdOf false ri (q - 1) <;> simp [gat,rdOf,hr] at hr ⊢ <;> simp [hr]
    · rw [if_pos (by omega),decide_eq_false hc];rfl
  · unfold gstep rstep
    rw [e3,hd,hm]
    simp only [Int.add_zero]
    rw [x2,show d * W - W + m = q - W by omega,show min q (q - W) = q - W by omega]
    by_cases hc : 0 < d
    · rw [if_neg (by omega),decide_eq_true hc,if_pos rfl]
      show (if rdOf false bl (q - W) = true then _ else _) = _
      cases rdOf false bl (q - W) <;> cases hr : rdOf false be (q - W) <;> simp [gat,rdOf,hr] at hr ⊢ <;> simp [hr]
    · rw [if_pos (by omega),decide_eq_false hc];rfl
set_option maxHeartbeats 8000000 in
set_option maxRecDepth 1000000 in
theorem rebusref05_Step.calls {H W : Int} {A2 : Option Addr} {c2 : Nat} {bl : List Bool} {A3 : Option Addr} {c3 : Nat} {ri : List Bool} {A4 : Option Addr} {c4 : Nat} {be : List Bool} {w : World} {q way : Int} (h : GridC A2 c2 bl A3 c3 ri A4 c4 be w) (hg : gcheck H W bl ri be = 0) (hw : way = 0 ∨ way = 1 ∨ way = 2 ∨ way = 3) :
    Calls Tryz.prog 73 #[.agg #[.int .i64 H,.int .i64 W,.slice A2 bl.length c2,.slice A3 ri.length c3,.slice A4 be.length c4],.int .i64 q,.int .i64 way] w fun e w'=>e = .returned (.tuple #[.int .i64 (gStep H W bl ri be q way).1,.bool (gStep H W bl ri be q way).2]) ∧ Below w.heap.size w w':=by
  have hx:=box1 w (.cells #[.int .i64 H,.int .i64 W,.slice A2 bl.length c2,.slice A3 ri.length c3,.slice A4 be.length c4] 24)
  replace hx:=Lib.hid hx
  have hu24:=Tryz.underlying24
  have hd:=Dims.of hg
  cases hop : gopen bl q with
  | false =>
    have ho : (decide (gcheck H W bl ri be = 0) && gopen bl q) = false:=by rw [hop,Bool.and_false]
    have hv : gStep H W bl ri be q way = (0,false):=by unfold gStep;rw [hop];rfl
    rw [hv]
    clear hv hd
    replace hw:=Lib.hid hw
    go_enter Tryz.func73,Tryz.ntmps73
    go_wp2_with (first
      | (go_at_call 97;go_must (refine (rebusref05_Open.calls (h.below hx.out.2)).mono ?_;rintro e w3 ⟨rfl,hb3⟩;rw [ho];have hc:=cells5 (blk_below hx.out.1 hb3))))
    go_ret2
    exact ⟨rfl,below_step hx.out.2 hb3⟩
  | true =>
    have ho : (decide (gcheck H W bl ri be = 0) && gopen bl q) = true:=by rw [hop,decide_eq_true hg];rfl
    have hv : gStep H W bl ri be q way = gstep H W bl ri be q way:=by unfold gStep;rw [hop];rfl
    rw [hv]
    clear hv
    have hop2 : 0 ≤ q ∧ q < bl.length:=by
      unfold gopen at hop
      simp only [Bool.and_eq_true,decide_eq_true_eq] at hop
      exact hop.1
    obtain ⟨hq0,hq1⟩:=hop2
    obtain ⟨n,hn⟩ : ∃ n,H * W = n:=⟨_,rfl⟩
    have hn1 : n ≤ 256:=by rw [← hn];exact hd.n
    have hbl : (bl.length : Int) = n:=by rw [← hn];exact hd.b
    have hri : (ri.length : Int) = n:=by rw [← hn];exact hd.r
    have hbe : (be.length : Int) = n:=by rw [← hn];exact hd.e
    have hH1:=hd.h1
    have hH2:=hd.h2
    have hW1:=hd.w1
    have hW2:=hd.w2
    obtain ⟨d,m,ed,em,hd0,hdH,hm0,hmW,hdq,k1,k2,k3,k4⟩:=place_facts (H:=H) hW1 hq0 (by rw [hn];omega)
    rw [hn] at k1 k2
    have hs : d * W + m = q:=by have:=Int.mul_ediv_add_emod q W;rw [Int.mul_comm,ed,em] at this;exact this
    have hdw : wrap64 (q.tdiv W) = d:=by rw [Int.tdiv_eq_ediv_of_nonneg hq0,ed];exact w64 (by omega) (by omega)
    have hmw : wrap64 (q.tmod W) = m:=by rw [Int.tmod_eq_emod_of_nonneg hq0,em];exact w64 (by omega) (by omega)
    obtain ⟨s0,s1,s2,s3⟩:=gstep_ref (bl:=bl) (ri:=ri) (be:=be) hW1 ed em hd0 hdH hm0 hmW hs
    clear hs hd hop hn hdw hmw
    rcases hw with rfl | rfl | rfl | rfl
    · rw [s0]
      clear s0 s1 s2 s3
      by_cases hc0 : m < W - 1
      · have tc : decide (m < W - 1) = true:=decide_eq_true hc0
        rw [tc]
        have kj : q + 1 < n:=k1 (by omega)
        obtain ⟨a5,e5,z5⟩:=Kd.at_bool (h.below hx.out.2).h3 (q) (by omega) (by omega)
        cases e5
        obtain ⟨a6,e6,z6⟩:=Kd.at_bool (h.below hx.out.2).h2 (q + 1) (by omega) (by omega)
        cases e6
        obtain ⟨xb,hxb⟩ : ∃ x,rdOf false ri (q) = x:=⟨_,rfl⟩
        obtain ⟨xk,hxk⟩ : ∃ x,rdOf false bl (q + 1) = x:=⟨_,rfl⟩
        rw [hxb] at z5 ⊢
        rw [hxk] at z6 ⊢
        clear hxb hxk
        cases xb with
        | true =>
          go_enter Tryz.func73,Tryz.ntmps73
          go_wp2_with (first
            | (go_at_call 97;go_must (refine (rebusref05_Open.calls (h.below hx.out.2)).mono ?_;rintro e w3 ⟨rfl,hb3⟩;rw [ho];have hc:=cells5 (blk_below hx.out.1 hb3);have z5:=pw_cell_below hb3 z5;have z6:=pw_cell_below hb3 z6)))
          go_quiet (fail)
          go_wp2
          go_ret2
          exact ⟨rfl,by first | exact pw_below_drewN (below_step hx.out.2 hb3) _ | exact below_step hx.out.2 hb3⟩
        | false =>
          cases xk with
          | true =>
            go_enter Tryz.func73,Tryz.ntmps73
            go_wp2_with (first
              | (go_at_call 97;go_must (refine (rebusref05_Open.calls (h.below hx.out.2)).mono ?_;rintro e w3 ⟨rfl,hb3⟩;rw [ho];have hc:=cells5 (blk_below hx.out.1 hb3);have z5:=pw_cell_below hb3 z5;have z6:=pw_cell_below hb3 z6)))
            go_quiet (fail)
            go_wp2
            go_ret2
            exact ⟨rfl,by first | exact pw_below_drewN (below_step hx.out.2 hb3) _ | exact below_step hx.out.2 hb3⟩
          | false =>
            go_enter Tryz.func73,Tryz.ntmps73
            go_wp2_with (first
              | (go_at_call 97;go_must (refine (rebusref05_Open.calls (h.below hx.out.2)).mono ?_;rintro e w3 ⟨rfl,hb3⟩;rw [ho];have hc:=cells5 (blk_below hx.out.1 hb3);have z5:=pw_cell_below hb3 z5;have z6:=pw_cell_below hb3 z6)))
            go_quiet (fail)
            go_wp2
            go_ret2
            exact ⟨rfl,by first | exact pw_below_drewN (below_step hx.out.2 hb3) _ | exact below_step hx.out.2 hb3⟩
      · have tc : decide (m < W - 1) = false:=decide_eq_false hc0
        rw [tc]
        go_enter Tryz.func73,Tryz.ntmps73
        go_wp2_with (first
          | (go_at_call 97;go_must (refine (rebusref05_Open.calls (h.below hx.out.2)).mono ?_;rintro e w3 ⟨rfl,hb3⟩;rw [ho];have hc:=cells5 (blk_below hx.out.1 hb3))))
        go_quiet (fail)
        go_wp2
        go_ret2
        exact ⟨rfl,by first | exact pw_below_drewN (below_step hx.out.2 hb3) _ | exact below_step hx.out.2 hb3⟩
    · rw [s1]
      clear s0 s1 s2 s3
      by_cases hc0 : d < H - 1
      · have tc : decide (d < H - 1) = true:=decide_eq_true hc0
        rw [tc]
        have kj : q + W < n:=k2 (by omega)
        obtain ⟨a5,e5,z5⟩:=Kd.at_bool (h.below hx.out.2).h4 (q) (by omega) (by omega)
        cases e5
        obtain ⟨a6,e6,z6⟩:=Kd.at_bool (h.below hx.out.2).h2 (q + W) (by omega) (by omega)
        cases e6
        obtain ⟨xb,hxb⟩ : ∃ x,rdOf false be (q) = x:=⟨_,rfl⟩
        obtain ⟨xk,hxk⟩ : ∃ x,rdOf false bl (q + W) = x:=⟨_,rfl⟩
        rw [hxb] at z5 ⊢
        rw [hxk] at z6 ⊢
        clear hxb hxk
        cases xb with
        | true =>
          go_enter Tryz.func73,Tryz.ntmps73
          go_wp2_with (first
            | (go_at_call 97;go_must (refine (rebusref05_Open.calls (h.below hx.out.2)).mono ?_;rintro e w3 ⟨rfl,hb3⟩;rw [ho];have hc:=cells5 (blk_below hx.out.1 hb3);have z5:=pw_cell_below hb3 z5;have z6:=pw_cell_below hb3 z6)))
          go_quiet (fail)
          go_wp2
          go_ret2
          exact ⟨rfl,by first | exact pw_below_drewN (below_step hx.out.2 hb3) _ | exact below_step hx.out.2 hb3⟩
        | false =>
          cases xk with
          | true =>
            go_enter Tryz.func73,Tryz.ntmps73
            go_wp2_with (first
              | (go_at_call 97;go_must (refine (rebusref05_Open.calls (h.below hx.out.2)).mono ?_;rintro e w3 ⟨rfl,hb3⟩;rw [ho];have hc:=cells5 (blk_below hx.out.1 hb3);have z5:=pw_cell_below hb3 z5;have z6:=pw_cell_below hb3 z6)))
            go_quiet (fail)
            go_wp2
            go_ret2
            exact ⟨rfl,by first | exact pw_below_drewN (below_step hx.out.2 hb3) _ | exact below_step hx.out.2 hb3⟩
          | false =>
            go_enter Tryz.func73,Tryz.ntmps73
            go_wp2_with (first
              | (go_at_call 97;go_must (refine (rebusref05_Open.calls (h.below hx.out.2)).mono ?_;rintro e w3 ⟨rfl,hb3⟩;rw [ho];have hc:=cells5 (blk_below hx.out.1 hb3);have z5:=pw_cell_below hb3 z5;have z6:=pw_cell_below hb3 z6)))
            go_quiet (fail)
            go_wp2
            go_ret2
            exact ⟨rfl,by first | exact pw_below_drewN (below_step hx.out.2 hb3) _ | exact below_step hx.out.2 hb3⟩
      · have tc : decide (d < H - 1) = false:=decide_eq_false hc0
        rw [tc]
        go_enter Tryz.func73,Tryz.ntmps73
        go_wp2_with (first
          | (go_at_call 97;go_must (refine (rebusref05_Open.calls (h.below hx.out.2)).mono ?_;rintro e w3 ⟨rfl,hb3⟩;rw [ho];have hc:=cells5 (blk_below hx.out.1 hb3))))
        go_quiet (fail)
        go_wp2
        go_ret2
        exact ⟨rfl,by first | exact pw_below_drewN (below_step hx.out.2 hb3) _ | exact below_step hx.out.2 hb3⟩
    · rw [s2]
      clear s0 s1 s2 s3
      by_cases hc0 : 0 < m
      · have tc : decide (0 < m) = true:=decide_eq_true hc0
        rw [tc]
        obtain ⟨p,hp⟩ : ∃ p,q - 1 = p:=⟨_,rfl⟩
        have k3:=k3 (by omega)
        rw [hp] at k3 ⊢
        have kj : 0 ≤ p:=k3
        obtain ⟨a5,e5,z5⟩:=Kd.at_bool (h.below hx.out.2).h3 (p) (by omega) (by omega)
        cases e5
        obtain ⟨a6,e6,z6⟩:=Kd.at_bool (h.below hx.out.2).h2 (p) (by omega) (by omega)
        cases e6
        obtain ⟨xb,hxb⟩ : ∃ x,rdOf false ri (p) = x:=⟨_,rfl⟩
        obtain ⟨xk,hxk⟩ : ∃ x,rdOf false bl (p) = x:=⟨_,rfl⟩
        rw [hxb] at z5 ⊢
        rw [hxk] at z6 ⊢
        clear hxb hxk
        cases xb with
        | true =>
          go_enter Tryz.func73,Tryz.ntmps73
          go_wp2_with (first
            | (go_at_call 97;go_must (refine (rebusref05_Open.calls (h.below hx.out.2)).mono ?_;rintro e w3 ⟨rfl,hb3⟩;rw [ho];have hc:=cells5 (blk_below hx.out.1 hb3);have z5:=pw_cell_below hb3 z5;have z6:=pw_cell_below hb3 z6)))
          go_quiet (fail)
          go_wp2
          go_ret2
          exact ⟨rfl,by first | exact pw_below_drewN (below_step hx.out.2 hb3) _ | exact below_step hx.out.2 hb3⟩
        | false =>
          cases xk with
          | true =>
            go_enter Tryz.func73,Tryz.ntmps73
            go_wp2_with (first
              | (go_at_call 97;go_must (refine (rebusref05_Open.calls (h.below hx.out.2)).mono ?_;rintro e w3 ⟨rfl,hb3⟩;rw [ho];have hc:=cells5 (blk_below hx.out.1 hb3);have z5:=pw_cell_below hb3 z5;have z6:=pw_cell_below hb3 z6)))
            go_quiet (fail)
            go_wp2
            go_ret2
            exact ⟨rfl,by first | exact pw_below_drewN (below_step hx.out.2 hb3) _ | exact below_step hx.out.2 hb3⟩
          | false =>
            go_enter Tryz.func73,Tryz.ntmps73
            go_wp2_with (first
              | (go_at_call 97;go_must (refine (rebusref05_Open.calls (h.below hx.out.2)).mono ?_;rintro e w3 ⟨rfl,hb3⟩;rw [ho];have hc:=cells5 (blk_below hx.out.1 hb3);have z5:=pw_cell_below hb3 z5;have z6:=pw_cell_below hb3 z6)))
            go_quiet (fail)
            go_wp2
            go_ret2
            exact ⟨rfl,by first | exact pw_below_drewN (below_step hx.out.2 hb3) _ | exact below_step hx.out.2 hb3⟩
      · have tc : decide (0 < m) = false:=decide_eq_false hc0
        rw [tc]
        go_enter Tryz.func73,Tryz.ntmps73
        go_wp2_with (first
          | (go_at_call 97;go_must (refine (rebusref05_Open.calls (h.below hx.out.2)).mono ?_;rintro e w3 ⟨rfl,hb3⟩;rw [ho];have hc:=cells5 (blk_below hx.out.1 hb3))))
        go_quiet (fail)
        go_wp2
        go_ret2
        exact ⟨rfl,by first | exact pw_below_drewN (below_step hx.out.2 hb3) _ | exact below_step hx.out.2 hb3⟩
    · rw [s3]
      clear s0 s1 s2 s3
      by_cases hc0 : 0 < d
      · have tc : decide (0 < d) = true:=decide_eq_true hc0
        rw [tc]
        have kj : 0 ≤ q - W:=k4 (by omega)
        obtain ⟨a5,e5,z5⟩:=Kd.at_bool (h.below hx.out.2).h4 (q - W) (by omega) (by omega)
        cases e5
        obtain ⟨a6,e6,z6⟩:=Kd.at_bool (h.below hx.out.2).h2 (q - W) (by omega) (by omega)
        cases e6
        obtain ⟨xb,hxb⟩ : ∃ x,rdOf false be (q - W) = x:=⟨_,rfl⟩
        obtain ⟨xk,hxk⟩ : ∃ x,rdOf false bl (q - W) = x:=⟨_,rfl⟩
        rw [hxb] at z5 ⊢
        rw [hxk] at z6 ⊢
        clear hxb hxk
        cases xb with
        | true =>
          go_enter Tryz.func73,Tryz.ntmps73
          go_wp2_with (first
            | (go_at_call 97;go_must (refine (rebusref05_Open.calls (h.below hx.out.2)).mono ?_;rintro e w3 ⟨rfl,hb3⟩;rw [ho];have hc:=cells5 (blk_below hx.out.1 hb3);have z5:=pw_cell_below hb3 z5;have z6:=pw_cell_below hb3 z6)))
          go_quiet (fail)
          go_wp2
          go_ret2
          exact ⟨rfl,by first | exact pw_below_drewN (below_step hx.out.2 hb3) _ | exact below_step hx.out.2 hb3⟩
        | false =>
          cases xk with
          | true =>
            go_enter Tryz.func73,Tryz.ntmps73
            go_wp2_with (first
              | (go_at_call 97;go_must (refine (rebusref05_Open.calls (h.below hx.out.2)).mono ?_;rintro e w3 ⟨rfl,hb3⟩;rw [ho];have hc:=cells5 (blk_below hx.out.1 hb3);have z5:=pw_cell_below hb3 z5;have z6:=pw_cell_below hb3 z6)))
            go_quiet (fail)
            go_wp2
            go_ret2
            exact ⟨rfl,by first | exact pw_below_drewN (below_step hx.out.2 hb3) _ | exact below_step hx.out.2 hb3⟩
          | false =>
            go_enter Tryz.func73,Tryz.ntmps73
            go_wp2_with (first
              | (go_at_call 97;go_must (refine (rebusref05_Open.calls (h.below hx.out.2)).mono ?_;rintro e w3 ⟨rfl,hb3⟩;rw [ho];have hc:=cells5 (blk_below hx.out.1 hb3);have z5:=pw_cell_below hb3 z5;have z6:=pw_cell_below hb3 z6)))
            go_quiet (fail)
            go_wp2
            go_ret2
            exact ⟨rfl,by first | exact pw_below_drewN (below_step hx.out.2 hb3) _ | exact below_step hx.out.2 hb3⟩
      · have tc : decide (0 < d) = false:=decide_eq_false hc0
        rw [tc]
        go_enter Tryz.func73,Tryz.ntmps73
        go_wp2_with (first
          | (go_at_call 97;go_must (refine (rebusref05_Open.calls (h.below hx.out.2)).mono ?_;rintro e w3 ⟨rfl,hb3⟩;rw [ho];have hc:=cells5 (blk_below hx.out.1 hb3))))
        go_quiet (fail)
        go_wp2
        go_ret2
        exact ⟨rfl,by first | exact pw_below_drewN (below_step hx.out.2 hb3) _ | exact below_step hx.out.2 hb3⟩
end Go.Proofs.YtkblbggmpahljaaGreatDoor.Q
end
