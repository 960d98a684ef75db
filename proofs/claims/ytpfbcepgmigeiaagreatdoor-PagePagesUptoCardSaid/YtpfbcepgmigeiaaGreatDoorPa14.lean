/- PART 14 OF A PROOF: Lean functions, and that the program computes them; written by hand and by a program. Not trusted: Lean checks it. -/
import Derived.Lib.FieldsP
import Derived.Lib.LazyBuf
import Derived.Lib.QuoteLoop
import Derived.Test.YtpfbcepgmigeiaaGreatDoorPa9
import Derived.Test.YtpfbcepgmigeiaaGreatDoorPa10
import Derived.Test.YtpfbcepgmigeiaaGreatDoorPa13
set_option linter.unusedVariables false
set_option linter.unusedSimpArgs false
section
namespace Go.Proofs.YtpfbcepgmigeiaaGreatDoor.Q
open Go.RowKit Go.Proofs.YtpfbcepgmigeiaaGreatDoorW.PrintWords Go.Proofs.YtpfbcepgmigeiaaGreatDoorW.PrintLast Go.Proofs.YtpfbcepgmigeiaaGreatDoorW.PrintMore
set_option linter.unusedVariables false
set_option linter.unusedSimpArgs false
open Go.Proofs.YtpfbcepgmigeiaaGreatDoorS
set_option maxHeartbeats 4000000 in
set_option maxRecDepth 1000000 in
theorem width2_calls (r : Int) (h : unar r) (w : World) :
    Calls Tryz.prog 89 #[.int .i32 r] w fun e w'=>e = .returned (.int .i64 1) ∧ Below w.heap.size w w':=by
  unfold unar at h
  rcases h with ⟨h1,h2⟩ | ⟨h1,h2⟩ | ⟨h1,h2⟩ <;> (go_enter Tryz.func89,Tryz.ntmps89;go_wp2;go_ret;exact ⟨rfl,Below.refl _ _⟩)
set_option maxHeartbeats 4000000 in
set_option maxRecDepth 1000000 in
theorem columns2_calls (s : ByteArray) (n : Nat) (w : World) (hz : s.size ≤ 1048576) (hn : Nar s.data.toList n) :
    Calls Tryz.prog 56 #[.string s] w fun e w'=>e = .returned (.int .i64 (n : Int)) ∧ Below w.heap.size w w':=by
  have hr:=runes_eq s hz (s.size + 11) (by omega)
  have hlen : (urunes s).length = n:=by rw [urunes_L];exact hn.runes.1
  have hun : ∀ r ∈ urunes s,unar r:=by rw [urunes_L];exact hn.runes.2
  have hn2 : n ≤ 1048576:=by have h1:=ucount_le s;rw [hn.count] at h1;omega
  obtain ⟨l,hl⟩ : ∃ l,urunes s = l:=⟨_,rfl⟩
  rw [hl] at hr hlen hun
  replace hr:=Lib.hid hr
  replace hun:=Lib.hid hun
  subst hlen
  clear hl
  go_enter Tryz.func56,Tryz.ntmps56
  go_wp2_with (first
    | (go_at_call 83;go_must (refine (rebusref01_Runes.calls _ _ _ _ hr.out).mono ?_;rintro e w3 ⟨v,rfl,rv,hb3⟩;obtain ⟨A,c,rfl⟩:=Kd.R_slice rv;have hR:=Lib.hid rv;have hB3:=Lib.hid hb3;clear rv hb3)))
  go_loopw [4,5] (fun v4 v5 wr=>∃ (i : Nat) (q : Int),v4 = .int .i64 q ∧ v5 = .int .i64 q ∧ Hid (q = i ∧ i ≤ l.length) ∧ Hid (Below w3.heap.size w3 wr)) (fun _ v5 _=>l.length - (intOf v5).toNat)
  case atStart=>exact ⟨0,0,rfl,rfl,Lib.hid ⟨rfl,Nat.zero_le _⟩,Lib.hid (Below.refl _ _)⟩
  case round =>
    obtain ⟨i,q,rfl,rfl,hq,hB⟩:=hrel
    by_cases hlt : i < l.length
    · have hq0 : 0 ≤ q:=by have:=hq.out;omega
      have hq1 : q < (l.length : Int):=by have:=hq.out;omega
      obtain ⟨ad,eA,zr⟩:=Kd.at_int (Kd.R_reads' (Kd.R_below hR.out hB.out)).2.2 q hq0 hq1
      cases eA
      obtain ⟨r,hrr⟩ : ∃ x,rd l q = x:=⟨_,rfl⟩
      rw [hrr] at zr
      have er : l[i] = r:=by
        rw [← hrr]
        unfold rd
        rw [List.getD_eq_getElem?_getD,show q.toNat = i by have:=hq.out;omega,List.getElem?_eq_getElem hlt]
        rfl
      have hur:=Lib.hid (hun.out r (by rw [← er];exact List.getElem_mem hlt))
      replace hlt:=Lib.hid hlt
      clear er hrr
      go_wp2_with (go_at_call 89;go_must (refine (width2_calls _ hur.out _).mono ?_;rintro e w4 ⟨rfl,hb4⟩;have hB4:=Lib.hid (hB.out.trans (hb4.mono hB.out.size));clear hb4))
      refine ⟨⟨i + 1,q + 1,rfl,rfl,Lib.hid ⟨by have:=hq.out;omega,hlt.out⟩,hB4⟩,?_⟩
      simp only [intOf];have:=hq.out;have:=hlt.out;omega
    · have hge : ¬ q < (l.length : Int):=by have:=hq.out;omega
      have hqE : q = (l.length : Int):=by have:=hq.out;omega
      subst hqE
      go_wp2
      go_ret
      exact ⟨rfl,below_step hB3.out hB.out⟩
theorem ba_of_list2 (x : ByteArray) : (⟨x.data.toList.toArray⟩ : ByteArray) = x:=by cases x;simp
theorem sp_snoc (s : ByteArray) (j : Nat) : s ++ spB j ++ ⟨#[32]⟩ = s ++ spB (j + 1):=by
  rw [ByteArray.append_assoc]
  congr 1
  have e : ∀ x y : ByteArray,x.data = y.data → x = y:=fun x y h=>by cases x;cases y;cases h;rfl
  refine e _ _ ?_
  have h1 : (spB j ++ ⟨#[32]⟩).data.toList = (spB (j + 1)).data.toList:=by
    rw [bap]
    show List.replicate j 32 ++ [32] = List.replicate (j + 1) 32
    rw [← List.replicate_succ']
  exact Array.toList_inj.1 h1
set_option maxHeartbeats 4000000 in
set_option maxRecDepth 1000000 in
theorem pad2_calls {s : ByteArray} {n : Nat} (hs : s.size ≤ 1048576) (hn : Nar s.data.toList n) (h3 : n ≤ 3) (w : World) :
    Calls Tryz.prog 92 #[.string s,.int .i64 3] w fun e w'=>e = .returned (.string (padB s)) ∧ Below w.heap.size w w':=by
  have hp : padB s = s ++ spB (3 - n):=by unfold padB;rw [hn.count]
  rw [hp]
  clear hp
  have hs0 : s ++ spB 0 = s:=by show s ++ (⟨#[]⟩ : ByteArray) = s;exact ByteArray.append_empty
  replace hs0:=Lib.hid hs0
  go_enter Tryz.func92,Tryz.ntmps92
  go_wp2_with (go_at_call 56;go_must (refine (columns2_calls s n _ hs hn).mono ?_;rintro e w1 ⟨rfl,hb1⟩))
  go_loopw [0,5] (fun v0 v5 wr=>∃ (j : Nat) (q : Int) (t : ByteArray),v0 = .string t ∧ v5 = .int .i64 q ∧ Hid (q = ((n + j : Nat) : Int) ∧ n + j ≤ 3 ∧ t = s ++ spB j) ∧ Hid (Below w.heap.size w wr)) (fun _ v5 _=>3 - (intOf v5).toNat)
  case atStart=>exact ⟨0,(n : Int),s,rfl,rfl,Lib.hid ⟨rfl,h3,hs0.out.symm⟩,Lib.hid hb1⟩
  case round =>
    obtain ⟨j,q,t,rfl,rfl,hj,hB⟩:=hrel
    have hts : t.size ≤ 1048580:=by rw [hj.out.2.2,ByteArray.size_append,spB_size];have:=hj.out;omega
    by_cases hlt : q < 3
    · have hq0 : 0 ≤ q:=by have:=hj.out;omega
      have hsum : ¬ (9223372036854775807 : Int) < (t.size : Int) + ((⟨#[32]⟩ : ByteArray).size : Int):=by
        have : (⟨#[32]⟩ : ByteArray).size = 1:=rfl
        omega
      have hq120 : q < 120:=by omega
      go_wp2
      refine ⟨⟨j + 1,q + 1,t ++ ⟨#[32]⟩,rfl,rfl,Lib.hid ⟨by have:=hj.out;omega,by have:=hj.out;omega,by rw [hj.out.2.2];exact sp_snoc s j⟩,hB⟩,?_⟩
      simp only [intOf];have:=hj.out;omega
    · have hjE : j = 3 - n:=by have:=hj.out;omega
      go_wp2
      go_ret
      exact ⟨by rw [hj.out.2.2,hjE];rfl,hB.out⟩
set_option maxHeartbeats 4000000 in
set_option maxRecDepth 1000000 in
theorem fit2_calls {s : ByteArray} {n : Nat} (hs : s.size ≤ 1048576) (hn : Nar s.data.toList n) (h3 : n ≤ 3) (w : World) :
    Calls Tryz.prog 90 #[.string s,.int .i64 3] w fun e w'=>e = .returned (.string s) ∧ Below w.heap.size w w':=by
  obtain ⟨L,hL,hLn,hLu⟩:=hn
  have hsz : s.data.toList.length = s.size:=rfl
  have hex : s.extract 0 s.size = s:=by simp
  replace hL:=Lib.hid hL
  replace hLu:=Lib.hid hLu
  replace hex:=Lib.hid hex
  replace hsz:=Lib.hid hsz
  go_enter Tryz.func90,Tryz.ntmps90
  go_wp2
  go_loopw [5,6] (fun v5 v6 wr=>∃ (i pos : Nat),v5 = .int .i64 (i : Int) ∧ v6 = .int .i64 (pos : Int) ∧ Hid (i ≤ L.length ∧ pos ≤ s.size ∧ s.data.toList.drop pos = (L.drop i).flatMap (fun r : Nat=>(Utf8.encode (r : Int)).data.toList)) ∧ Hid (Below w.heap.size w wr)) (fun _ v6 _=>s.size - (intOf v6).toNat)
  case atStart=>exact ⟨0,0,rfl,rfl,Lib.hid ⟨Nat.zero_le _,Nat.zero_le _,by rw [List.drop_zero,List.drop_zero];exact hL.out⟩,Lib.hid (Below.refl _ _)⟩
  case round =>
    obtain ⟨i,pos,rfl,rfl,hi,hB⟩:=hrel
    by_cases hp : pos < s.size
    · obtain ⟨h1,h2,hd⟩:=hi.out
      have hlt : i < L.length:=by
        rcases Nat.lt_or_ge i L.length with h | h
        · exact h
        · rw [List.drop_of_length_le h] at hd
          have:=congrArg List.length hd
          rw [List.length_drop,hsz.out] at this
          simp at this
          omega
      rw [List.drop_eq_getElem_cons hlt,List.flatMap_cons] at hd
      have hu:=hLu.out _ (List.getElem_mem hlt)
      obtain ⟨r,hr⟩ : ∃ r,L[i] = r:=⟨_,rfl⟩
      rw [hr] at hd hu
      have hdec : Utf8.decode s pos = (r,(Utf8.encode (r : Int)).data.toList.length):=by
        rw [← Lib.decodeL_drop,hd]
        exact dec_enc r (unar_valid hu) _
      obtain ⟨k,hk⟩ : ∃ k,(Utf8.encode (r : Int)).data.toList.length = k:=⟨_,rfl⟩
      rw [hk] at hdec
      have hlen:=congrArg List.length hd
      rw [List.length_drop,List.length_append,hsz.out,hk] at hlen
      have hd2 : s.data.toList.drop (pos + k) = (L.drop (i + 1)).flatMap (fun r : Nat=>(Utf8.encode (r : Int)).data.toList):=by
        rw [← List.drop_drop,hd,← hk,List.drop_left]
      have hk1 : 1 ≤ k:=by have h4:=width_pos s pos hp;rw [hdec] at h4;exact h4
      have hnx:=next_eq2 10 (Nat.le_refl _) s pos hp (by omega)
      rw [hdec] at hnx
      have hi3 : i ≤ 2:=by omega
      have hkp : pos + k ≤ s.size:=by omega
      replace hnx:=Lib.hid hnx
      replace hd2:=Lib.hid hd2
      replace hu:=Lib.hid hu
      replace hlt:=Lib.hid hlt
      clear hd hdec hk hr hlen hi h1 h2
      go_wp2_with (first
        | (go_at_call 88;go_must (refine (rebusref01_Next.calls _ _ _ _ _ _ hnx.out).mono ?_;rintro e w2 ⟨rfl,hdr⟩;have hb2:=hdr.below;have hB2:=Lib.hid (hB.out.trans (hb2.mono hB.out.size));clear hb2 hdr))
        | (go_at_call 89;have B:=hB2.out;clear hB2;go_must (refine (width2_calls _ hu.out _).mono ?_;rintro e w3 ⟨rfl,hb3⟩;have hB2:=Lib.hid (B.trans (hb3.mono B.size));clear hb3 B)))
      refine ⟨⟨i + 1,pos + k,?_,?_,Lib.hid ⟨hlt.out,hkp,hd2.out⟩,hB2⟩,?_⟩
      · congr 1
      · congr 1
      · simp only [intOf];omega
    · have hpE : pos = s.size:=by have:=hi.out;omega
      subst hpE
      go_wp2
      go_ret
      exact ⟨rfl,hB.out⟩
set_option maxHeartbeats 4000000 in
set_option maxRecDepth 1000000 in
theorem middle2_calls {s : ByteArray} {n : Nat} (hs : s.size ≤ 1048576) (hn : Nar s.data.toList n) (h3 : n ≤ 3) (w : World) :
    Calls Tryz.prog 61 #[.string s] w fun e w'=>e = .returned (.string (midB s)) ∧ Below w.heap.size w w':=by
  have h1n : Nar (⟨#[32]⟩ ++ s : ByteArray).data.toList (1 + n):=nar_app (Nar.ascii [32] (by decide)) hn
  have hsz : ¬ (9223372036854775807 : Int) < ((⟨#[32]⟩ : ByteArray).size : Int) + (s.size : Int):=by
    have : (⟨#[32]⟩ : ByteArray).size = 1:=rfl
    omega
  have hsz2 : ¬ (9223372036854775807 : Int) < ((⟨#[32]⟩ : ByteArray).size : Int) + (s.size : Int) + ((⟨#[32]⟩ : ByteArray).size : Int):=by
    have : (⟨#[32]⟩ : ByteArray).size = 1:=rfl
    omega
  have hm : n ≤ 2 → midB s = ⟨#[32]⟩ ++ s ++ spB (3 - (1 + n)):=fun h=>by unfold midB;rw [hn.count,if_pos h];unfold padB;rw [h1n.count]
  have hc : n = 0 ∨ n = 1 ∨ n = 2 ∨ n = 3:=by omega
  rcases hc with rfl | rfl | rfl | rfl
  · have hs0 : s = ⟨#[]⟩:=by
      have h4:=hn.count
      obtain ⟨L,e,hl,_⟩:=hn
      have : L = []:=List.eq_nil_of_length_eq_zero hl
      rw [this] at e
      rw [← ba_of_list2 s,e]
      rfl
    subst hs0
    have hv : midB ⟨#[]⟩ = ⟨#[32,32,32]⟩:=by decide +kernel
    rw [hv]
    clear hm hv
    go_enter Tryz.func61,Tryz.ntmps61
    go_wp2_with (go_at_call 56;go_must (refine (columns2_calls _ 0 _ hs hn).mono ?_;rintro e w1 ⟨rfl,hb1⟩))
    go_ret
    exact ⟨rfl,hb1⟩
  · rw [hm (by omega)]
    clear hm
    go_enter Tryz.func61,Tryz.ntmps61
    go_wp2_with (go_at_call 56;go_must (refine (columns2_calls _ 1 _ hs hn).mono ?_;rintro e w1 ⟨rfl,hb1⟩))
    go_ret
    exact ⟨rfl,hb1⟩
  · have he : ⟨#[32]⟩ ++ s ++ spB (3 - (1 + 2)) = ⟨#[32]⟩ ++ s:=by show ⟨#[32]⟩ ++ s ++ (⟨#[]⟩ : ByteArray) = _;exact ByteArray.append_empty
    rw [hm (by omega),he]
    clear hm he
    go_enter Tryz.func61,Tryz.ntmps61
    go_wp2_with (go_at_call 56;go_must (refine (columns2_calls _ 2 _ hs hn).mono ?_;rintro e w1 ⟨rfl,hb1⟩))
    go_ret
    exact ⟨rfl,hb1⟩
  · have hm3 : midB s = s:=by unfold midB;rw [hn.count,if_neg (by decide)]
    have hp : padB s = s:=by
      unfold padB
      rw [hn.count]
      show s ++ (⟨#[]⟩ : ByteArray) = s
      exact ByteArray.append_empty
    rw [hm3]
    clear hm hm3
    replace hp:=Lib.hid hp
    go_enter Tryz.func61,Tryz.ntmps61
    go_wp2_with (first
      | (go_at_call 56;go_must (refine (columns2_calls _ 3 _ hs hn).mono ?_;rintro e w1 ⟨rfl,hb1⟩))
      | (go_at_call 90;go_must (refine (fit2_calls hs hn (by omega) _).mono ?_;rintro e w2 ⟨rfl,hb2⟩))
      | (go_at_call 92;go_must (refine (pad2_calls hs hn (by omega) _).mono ?_;rw [hp.out];rintro e w3 ⟨rfl,hb3⟩)))
    go_ret
    exact ⟨rfl,(hb1.trans (hb2.mono hb1.size)).trans (hb3.mono (hb1.trans (hb2.mono hb1.size)).size)⟩
end Go.Proofs.YtpfbcepgmigeiaaGreatDoor.Q
end
section
namespace Go.Proofs.YtpfbcepgmigeiaaGreatDoor.Q
open Go.RowKit Go.Shelf Go.Proofs.YtpfbcepgmigeiaaGreatDoorW.PrintWords Go.Proofs.YtpfbcepgmigeiaaGreatDoorW.PrintLast Go.Proofs.YtpfbcepgmigeiaaGreatDoorS
set_option linter.unusedVariables false
set_option linter.unusedSimpArgs false
def wsum : List (Nat × Nat × Nat) → Int
  | []=>0
  | t :: r=>uwid (t.2.1 : Int) + wsum r
theorem wsum_bound : ∀ l : List (Nat × Nat × Nat),0 ≤ wsum l ∧ wsum l ≤ 2 * (l.length : Int)
  | []=>by simp [wsum]
  | t :: r=>by
    have h1:=wsum_bound r
    have h2:=uwid_pos (t.2.1 : Int)
    simp only [wsum,List.length_cons]
    omega
def ucols (s : ByteArray) : Int:=wsum (uall s)
theorem ucols_bound (s : ByteArray) : 0 ≤ ucols s ∧ ucols s ≤ 2 * (s.size : Int):=by
  have h1:=wsum_bound (uall s)
  have h2:=ulist_length s s.size 0
  unfold ucols uall at *
  omega
set_option maxHeartbeats 4000000 in
set_option maxRecDepth 1000000 in
theorem columns_any (a0 : ByteArray) (w : World) (hs : a0.size ≤ 1099511627776) :
    Calls Tryz.prog 49 #[.string a0] w fun e w'=>e = .returned (.int .i64 (ucols a0)) ∧ Below w.heap.size w w':=by
  have hcb:=ucols_bound a0
  go_enter Tryz.func49,Tryz.ntmps49
  go_wp2
  go_loopw [3] (fun m wr=>∃ (pos f : Nat) (q : Int),m = .int .i64 q ∧ wr.heap[w.heap.size]? = some (.stringIter a0 pos) ∧ Below w.heap.size w wr ∧ Hid (0 ≤ q ∧ q + wsum (ulist a0 f pos) = ucols a0) ∧ a0.size ≤ pos + f) (fun _ wr=>a0.size - wr.iterPos w.heap.size)
  case atStart=>exact ⟨0,a0.size,0,rfl,World.iter_heap w a0 0,(Below.refl _ w).alloc (Nat.le_refl _) _,Lib.hid ⟨Int.le_refl _,by simp [ucols,uall]⟩,by omega⟩
  case round =>
    obtain ⟨pos,f,q,rfl,hit,hbw,hc,hf⟩:=hrel
    by_cases hp : pos < a0.size
    · have hnx : ∀ ty,(Instr.next (.pointer (some ⟨w.heap.size,0,none⟩)) true ty).run Tryz.prog wr = _:=fun ty=>Lib.run_next_any_at wr w.heap.size a0 pos ty hit hp
      have hwd:=width_pos a0 pos hp
      have hd1:=decode_le a0 pos
      have hit2:=Lib.iterAt_heap wr (w.heap.size) a0 pos (pos + (Utf8.decode a0 pos).2) hit
      have hbw2:=Lib.below_iterAt hbw (k:=w.heap.size) (by omega) a0 (pos + (Utf8.decode a0 pos).2)
      obtain ⟨f,rfl⟩ : ∃ f',f = f' + 1:=⟨f - 1,by omega⟩
      have hc2:=hc.out
      rw [ulist_step a0 f pos hp,wsum] at hc2
      have hu:=uwid_pos ((Utf8.decode a0 pos).1 : Int)
      have hb:=wsum_bound (ulist a0 f (pos + (Utf8.decode a0 pos).2))
      obtain ⟨u,hu2⟩ : ∃ u,uwid ((Utf8.decode a0 pos).1 : Int) = u:=⟨_,rfl⟩
      have hwa:=width_any ((Utf8.decode a0 pos).1 : Int)
      simp only [hu2] at hc2 hu hwa
      have hq0 : 0 ≤ q:=hc2.1
      have hq1 : q + u ≤ 2 * (a0.size : Int):=by omega
      have hcn:=Lib.hid (show 0 ≤ q + u ∧ q + u + wsum (ulist a0 f (pos + (Utf8.decode a0 pos).2)) = ucols a0 from by omega)
      replace hwa:=Lib.hid hwa
      clear hc hc2 hu2 hb
      go_wp2_with (go_at_call 80;go_must (refine (hwa.out _).mono ?_;rintro e w3 ⟨rfl,hb3⟩))
      have hit3 : w3.heap[w.heap.size]? = some (.stringIter a0 (pos + (Utf8.decode a0 pos).2)):=(hb3.block _ (Array.getElem?_eq_some_iff.1 hit2).1).trans hit2
      go_roundw
      case rel=>exact ⟨pos + (Utf8.decode a0 pos).2,f,q + u,rfl,hit3,hbw2.trans (hb3.mono hbw2.size),hcn,by omega⟩
      case measure=>simp only [World.iterPos,hit3,hit];omega
    · have hnx : ∀ ty,(Instr.next (.pointer (some ⟨w.heap.size,0,none⟩)) true ty).run Tryz.prog wr = _:=fun ty=>Lib.run_next_end_at wr (w.heap.size) a0 pos ty hit hp
      have hc2:=hc.out
      rw [ulist_end a0 f pos hp,wsum] at hc2
      have hE:=Lib.hid (show q = ucols a0 from by omega)
      clear hc hc2
      go_wp2
      go_ret
      rw [hE.out]
      exact ⟨rfl,hbw⟩
set_option maxHeartbeats 8000000 in
set_option maxRecDepth 1000000 in
theorem width2_any (r : Int) (h0 : -2147483648 ≤ r) (h1 : r ≤ 2147483647) (w : World) :
    Calls Tryz.prog 89 #[.int .i32 r] w fun e w'=>e = .returned (.int .i64 (uwid r)) ∧ Below w.heap.size w w':=by
  by_cases hz : (0 ≤ r ∧ r ≤ 31) ∨ (127 ≤ r ∧ r ≤ 159) ∨ (768 ≤ r ∧ r ≤ 879)
  · have hv : uwid r = 0:=by unfold uwid;rw [if_pos (by omega)]
    replace hv:=Lib.hid hv
    rcases hz with ⟨h2,h3⟩ | ⟨h2,h3⟩ | ⟨h2,h3⟩ <;> (go_enter Tryz.func89,Tryz.ntmps89;go_wp2;go_ret;exact ⟨by rw [hv.out];rfl,Below.refl _ _⟩)
  · by_cases ht : (4352 ≤ r ∧ r ≤ 4447) ∨ (11904 ≤ r ∧ r ≤ 42191) ∨ (44032 ≤ r ∧ r ≤ 55203) ∨ (63744 ≤ r ∧ r ≤ 64255) ∨ (65280 ≤ r ∧ r ≤ 65376) ∨ (127744 ≤ r ∧ r ≤ 129791)
    · have hv : uwid r = 2:=by unfold uwid;rw [if_neg (by omega),if_pos (by omega)]
      replace hv:=Lib.hid hv
      clear hz
      rcases ht with ⟨h2,h3⟩ | ⟨h2,h3⟩ | ⟨h2,h3⟩ | ⟨h2,h3⟩ | ⟨h2,h3⟩ | ⟨h2,h3⟩ <;> (go_enter Tryz.func89,Tryz.ntmps89;go_wp2;go_ret;exact ⟨by rw [hv.out];rfl,Below.refl _ _⟩)
    · have hv : uwid r = 1:=by unfold uwid;rw [if_neg (by omega),if_neg (by omega)]
      replace hv:=Lib.hid hv
      have hc : r < 0 ∨ (31 < r ∧ r < 127) ∨ (159 < r ∧ r < 768) ∨ (879 < r ∧ r < 4352) ∨ (4447 < r ∧ r < 11904) ∨ (42191 < r ∧ r < 44032) ∨ (55203 < r ∧ r < 63744) ∨ (64255 < r ∧ r < 65280) ∨ (65376 < r ∧ r < 127744) ∨ 129791 < r:=by omega
      clear hz ht
      rcases hc with h2 | ⟨h2,h3⟩ | ⟨h2,h3⟩ | ⟨h2,h3⟩ | ⟨h2,h3⟩ | ⟨h2,h3⟩ | ⟨h2,h3⟩ | ⟨h2,h3⟩ | ⟨h2,h3⟩ | h2 <;> (go_enter Tryz.func89,Tryz.ntmps89;go_wp2;go_ret;exact ⟨by rw [hv.out];rfl,Below.refl _ _⟩)
end Go.Proofs.YtpfbcepgmigeiaaGreatDoor.Q
end
section
namespace Go.Proofs.YtpfbcepgmigeiaaGreatDoor.Q
open Go.RowKit Go.Shelf Go.Proofs.YtpfbcepgmigeiaaGreatDoorW.PrintWords Go.Proofs.YtpfbcepgmigeiaaGreatDoorW.PrintLast Go.Proofs.YtpfbcepgmigeiaaGreatDoorS
set_option linter.unusedVariables false
set_option linter.unusedSimpArgs false
def isum : List Int → Int
  | []=>0
  | r :: l=>uwid r + isum l
theorem isum_bound : ∀ l : List Int,0 ≤ isum l ∧ isum l ≤ 2 * (l.length : Int)
  | []=>by simp [isum]
  | r :: l=>by
    have h1:=isum_bound l
    have h2:=uwid_pos r
    simp only [isum,List.length_cons]
    omega
theorem isum_map : ∀ l : List (Nat × Nat × Nat),isum (l.map fun t=>(t.2.1 : Int)) = wsum l
  | []=>rfl
  | t :: l=>by simp only [List.map_cons,isum,wsum,isum_map l]
theorem isum_urunes (s : ByteArray) : isum (urunes s) = ucols s:=by
  unfold urunes ucols
  exact isum_map _
set_option maxHeartbeats 4000000 in
set_option maxRecDepth 1000000 in
theorem columns2_any (s : ByteArray) (w : World) (hz : s.size ≤ 1048576) :
    Calls Tryz.prog 56 #[.string s] w fun e w'=>e = .returned (.int .i64 (ucols s)) ∧ Below w.heap.size w w':=by
  have hr:=runes_eq s hz (s.size + 11) (by omega)
  have hrg:=urunes_range s
  have hn2 : (urunes s).length ≤ 1048576:=by
    have h1:=ucount_le s
    have h2 : (urunes s).length = ucount s:=by simp [ucount,urunes]
    omega
  have hsm:=isum_urunes s
  obtain ⟨l,hl⟩ : ∃ l,urunes s = l:=⟨_,rfl⟩
  rw [hl] at hr hn2 hrg hsm
  replace hr:=Lib.hid hr
  replace hrg:=Lib.hid hrg
  replace hsm:=Lib.hid hsm
  clear hl
  go_enter Tryz.func56,Tryz.ntmps56
  go_wp2_with (first
    | (go_at_call 83;go_must (refine (rebusref01_Runes.calls _ _ _ _ hr.out).mono ?_;rintro e w3 ⟨v,rfl,rv,hb3⟩;obtain ⟨A,c,rfl⟩:=Kd.R_slice rv;have hR:=Lib.hid rv;have hB3:=Lib.hid hb3;clear rv hb3)))
  go_loopw [4,5] (fun v4 v5 wr=>∃ (i : Nat) (q t : Int),v4 = .int .i64 t ∧ v5 = .int .i64 q ∧ Hid (q = i ∧ i ≤ l.length) ∧ Hid (0 ≤ t ∧ t + isum (l.drop i) = isum l) ∧ Hid (Below w3.heap.size w3 wr)) (fun _ v5 _=>l.length - (intOf v5).toNat)
  case atStart=>exact ⟨0,0,0,rfl,rfl,Lib.hid ⟨rfl,Nat.zero_le _⟩,Lib.hid ⟨Int.le_refl _,by rw [List.drop_zero];omega⟩,Lib.hid (Below.refl _ _)⟩
  case round =>
    obtain ⟨i,q,t,rfl,rfl,hq,ht,hB⟩:=hrel
    by_cases hlt : i < l.length
    · have hq0 : 0 ≤ q:=by have:=hq.out;omega
      have hq1 : q < (l.length : Int):=by have:=hq.out;omega
      obtain ⟨ad,eA,zr⟩:=Kd.at_int (Kd.R_reads' (Kd.R_below hR.out hB.out)).2.2 q hq0 hq1
      cases eA
      obtain ⟨r,hrr⟩ : ∃ x,rd l q = x:=⟨_,rfl⟩
      rw [hrr] at zr
      have er : l[i] = r:=by
        rw [← hrr]
        unfold rd
        rw [List.getD_eq_getElem?_getD,show q.toNat = i by have:=hq.out;omega,List.getElem?_eq_getElem hlt]
        rfl
      obtain ⟨b0,b1⟩:=hrg.out r (by rw [← er];exact List.getElem_mem hlt)
      have ht2:=ht.out
      rw [List.drop_eq_getElem_cons hlt,er,isum] at ht2
      have hu:=uwid_pos r
      have hwa:=width2_any r b0 b1
      have hbb:=isum_bound (l.drop (i + 1))
      have hbl:=isum_bound l
      obtain ⟨u,hu2⟩ : ∃ u,uwid r = u:=⟨_,rfl⟩
      simp only [hu2] at ht2 hu hwa
      have hq2 : 0 ≤ t:=ht2.1
      have hq3 : t + u ≤ 2097152:=by omega
      have htn:=Lib.hid (show 0 ≤ t + u ∧ t + u + isum (l.drop (i + 1)) = isum l from by omega)
      replace hwa:=Lib.hid hwa
      replace hlt:=Lib.hid hlt
      clear er hrr ht ht2 hbb hbl hu2
      go_wp2_with (go_at_call 89;go_must (refine (hwa.out _).mono ?_;rintro e w4 ⟨rfl,hb4⟩;have hB4:=Lib.hid (hB.out.trans (hb4.mono hB.out.size));clear hb4))
      refine ⟨⟨i + 1,q + 1,t + u,rfl,rfl,Lib.hid ⟨by have:=hq.out;omega,hlt.out⟩,htn,hB4⟩,?_⟩
      simp only [intOf];have:=hq.out;have:=hlt.out;omega
    · have hge : ¬ q < (l.length : Int):=by have:=hq.out;omega
      have ht2:=ht.out
      rw [List.drop_of_length_le (by omega),isum] at ht2
      have hE:=Lib.hid (show t = ucols s from by have:=hsm.out;omega)
      clear ht ht2
      go_wp2
      go_ret
      exact ⟨by rw [hE.out];rfl,below_step hB3.out hB.out⟩
def fitL : List (Nat × Nat × Nat) → Int → Option Nat
  | [],_=>none
  | t :: r,n=>if n < uwid (t.2.1 : Int) then some t.1 else fitL r (n - uwid (t.2.1 : Int))
def ufit (s : ByteArray) (n : Int) : ByteArray:=if n < 0 then ⟨#[]⟩ else match fitL (uall s) n with | some k=>s.extract 0 k | none=>s
end Go.Proofs.YtpfbcepgmigeiaaGreatDoor.Q
end
section
namespace Go.Proofs.YtpfbcepgmigeiaaGreatDoor.Q
open Go.RowKit Go.Shelf Go.Proofs.YtpfbcepgmigeiaaGreatDoorW.PrintWords Go.Proofs.YtpfbcepgmigeiaaGreatDoorW.PrintLast Go.Proofs.YtpfbcepgmigeiaaGreatDoorS
set_option linter.unusedVariables false
set_option linter.unusedSimpArgs false
theorem wsum_snoc : ∀ (l : List (Nat × Nat × Nat)) (x : Nat × Nat × Nat),wsum (l ++ [x]) = wsum l + uwid (x.2.1 : Int)
  | [],x=>by simp [wsum]
  | t :: l,x=>by
    have h:=wsum_snoc l x
    simp only [List.cons_append,wsum]
    omega
theorem fitL_some : ∀ (l r : List (Nat × Nat × Nat)) (n : Int) (k : Nat),fitL l n = some k → fitL (l ++ r) n = some k
  | [],_,_,_,h=>by simp [fitL] at h
  | t :: l,r,n,k,h=>by
    simp only [List.cons_append,fitL] at h ⊢
    split
    · rename_i h1
      rw [if_pos h1] at h
      exact h
    · rename_i h1
      rw [if_neg h1] at h
      exact fitL_some l r _ k h
theorem fitL_none : ∀ (l : List (Nat × Nat × Nat)) (n : Int),0 ≤ n → fitL l n = none → 0 ≤ n - wsum l
  | [],n,h0,_=>by simpa [wsum] using h0
  | t :: l,n,h0,h=>by
    simp only [fitL] at h
    split at h
    · cases h
    · rename_i h1
      have h2:=fitL_none l (n - uwid (t.2.1 : Int)) (by omega) h
      simp only [wsum]
      omega
theorem fitL_snoc : ∀ (l : List (Nat × Nat × Nat)) (x : Nat × Nat × Nat) (n : Int),fitL l n = none → fitL (l ++ [x]) n = if n - wsum l < uwid (x.2.1 : Int) then some x.1 else none
  | [],x,n,_=>by simp [fitL,wsum]
  | t :: l,x,n,h=>by
    simp only [fitL] at h
    split at h
    · cases h
    · rename_i h1
      have h2:=fitL_snoc l x (n - uwid (t.2.1 : Int)) h
      simp only [List.cons_append,fitL]
      rw [if_neg h1,h2]
      simp only [wsum]
      rw [show n - uwid (t.2.1 : Int) - wsum l = n - (uwid (t.2.1 : Int) + wsum l) by omega]
      rfl
attribute [local go_sem] Oper.semAt_some
abbrev BRune (s : ByteArray):={ x : Nat × Nat × Nat // x.2.1 ≤ 2147483647 ∧ x.1 ≤ s.size }
def benc {s : ByteArray} (x : BRune s) : Array Value:=#[.int .i64 x.1.1,.int .i32 x.1.2.1]
set_option maxHeartbeats 4000000 in
set_option maxRecDepth 1000000 in
theorem all1_in (F : Fence) (n : Nat) (hF : F.fn 113) (hro : F.round = none) (hn : 1 ≤ n) (box : Nat) (s : ByteArray) (w : World) (hsz : s.size ≤ 140737488351232) (hbox : w.cell? ⟨box,0,none⟩ = some (.string s)) :
    SeqStopsA F n Tryz.prog 113 #[.pointer (some ⟨box,0,none⟩)] (benc (s:=s)) (fun xs : List (BRune s)=>xs.map Subtype.val = uall s) (fun pre : List (BRune s)=>∃ r,pre.map Subtype.val ++ r = uall s) (s.size + 1) w:=fun l J Jx W hW hJ hJx hY h0=>by
  have hbW : W.cell? ⟨box,0,none⟩ = some (.string s):=(hW.cell (p:=⟨box,0,none⟩) (World.block_lt_of_cell? w _ hbox)).trans hbox
  refine callsIn_of_wp Tryz.func113 rfl hF ?_ hro
  simp only [Tryz.ntmps113,List.size_toArray,List.length_cons,List.length_nil,Nat.reduceAdd,Nat.reduceSub,Array.replicate_succ,Array.replicate_zero,List.push_toArray,List.append_toArray,List.nil_append,List.cons_append]
  gi_wp2
  gi_loopw [] (fun wr=>∃ (pos f : Nat) (pre : List (BRune s)),wr.heap[W.heap.size]? = some (.stringIter s pos) ∧ J pre wr ∧ pre.map Subtype.val ++ ulist s f pos = uall s ∧ s.size ≤ pos + f) (fun wr=>s.size - wr.iterPos W.heap.size)
  case atStart=>exact ⟨0,s.size,[],World.iter_heap W s 0,abides_alloc hJ _ h0,rfl,by omega⟩
  case round =>
    obtain ⟨pos,f,pre,hit,hJs,hx,hf⟩:=hrel
    by_cases hp : pos < s.size
    · have hnx : ∀ ty,(Instr.next (.pointer (some ⟨W.heap.size,0,none⟩)) true ty).run Tryz.prog wr = _:=fun ty=>Lib.run_next_any_at wr W.heap.size s pos ty hit hp
      have hwd:=width_pos s pos hp
      have hd1:=decode_le s pos
      have hit2:=Lib.iterAt_heap wr (W.heap.size) s pos (pos + (Utf8.decode s pos).2) hit
      obtain ⟨f,rfl⟩ : ∃ f',f = f' + 1:=⟨f - 1,by omega⟩
      have hJ2:=abides_iter hJ (Nat.le_refl _) hit (pos + (Utf8.decode s pos).2) hJs
      rw [ulist_step s f pos hp] at hx
      have hlen : pre.length < s.size + 1:=by
        have h1:=congrArg List.length hx
        have h2:=ulist_length s s.size 0
        simp only [List.length_append,List.length_map,List.length_cons,uall] at h1
        omega
      have hu1 : pos ≤ s.size:=by omega
      obtain ⟨fn,tmps,assign,body,hy,hR⟩:=hY pre ⟨(pos,(Utf8.decode s pos).1,(Utf8.decode s pos).2),⟨hd1,hu1⟩⟩ _ hJ2 hlen
      simp only [benc] at hy
      have hx:=Lib.hid hx
      clear hJ2
      gi_wp2
      refine hR.mono ?_
      rintro e W3 (⟨rfl,hJ3,hk3⟩ | ⟨rfl,hJx3⟩)
      · have hit3:=hk3.same _ _ hit2 rfl
        gi_wp2
        go_roundw
        case rel=>exact ⟨pos + (Utf8.decode s pos).2,f,pre ++ [⟨(pos,(Utf8.decode s pos).1,(Utf8.decode s pos).2),⟨hd1,hu1⟩⟩],hit3,hJ3,by have:=hx.out;simpa using this,by omega⟩
        case measure=>simp only [World.iterPos,hit3,hit];omega
      · gi_wp2
        refine bodyPost_ret (results_none rfl _ _ _) rfl ?_
        exact ⟨⟨_,rfl⟩,.inr ⟨_,⟨_,by have:=hx.out;simpa using this⟩,hJx3⟩⟩
    · have hnx : ∀ ty,(Instr.next (.pointer (some ⟨W.heap.size,0,none⟩)) true ty).run Tryz.prog wr = _:=fun ty=>Lib.run_next_end_at wr (W.heap.size) s pos ty hit hp
      rw [ulist_end s f pos hp,List.append_nil] at hx
      have hx:=Lib.hid hx
      gi_wp2
      go_end0
      exact ⟨⟨_,rfl⟩,.inl ⟨pre,hx.out,hJs⟩⟩
def kOf {s : ByteArray} (n : Int) (xs : List (BRune s)) : Nat:=(fitL (xs.map Subtype.val) n).getD 0
set_option maxHeartbeats 4000000 in
set_option maxRecDepth 1000000 in
theorem fit_any {s : ByteArray} {n : Int} (hs : s.size ≤ 1048576) (hn : n ≤ 1048576) (w : World) :
    Calls Tryz.prog 63 #[.string s,.int .i64 n] w fun e w'=>e = .returned (.string (ufit s n)) ∧ Below w.heap.size w w':=by
  by_cases h0 : n < 0
  · have hv : ufit s n = ⟨#[]⟩:=by unfold ufit;rw [if_pos h0]
    have q:=box3 w (.cells #[.string s] 9) (.cells #[.int .i64 n] 3) (.cells #[.string ⟨#[]⟩] 9)
    have hc : (((w.alloc (.cells #[.string s] 9)).alloc (.cells #[.int .i64 n] 3)).alloc (.cells #[.string ⟨#[]⟩] 9)).cell? ⟨w.heap.size + 1 + 1,0,none⟩ = some (.string ⟨#[]⟩):=(blk_cell q.2.2.1 0).trans rfl
    replace q:=Lib.hid q
    rw [hv]
    clear hv
    go_enter Tryz.func63,Tryz.ntmps63
    go_wp2
    exact bodyPost_ret (v:=.string ⟨#[]⟩) (by simp [results,Tryz.results63,go_sem,hc]) rfl ⟨rfl,q.out.2.2.2⟩
  · obtain ⟨V,hV⟩ : ∃ V,ufit s n = V:=⟨_,rfl⟩
    have hVn : fitL (uall s) n = none → V = s:=fun h=>by rw [← hV];unfold ufit;rw [if_neg h0,h]
    have hVs : ∀ k,fitL (uall s) n = some k → V = s.extract 0 k:=fun k h=>by rw [← hV];unfold ufit;rw [if_neg h0,h]
    rw [hV]
    clear hV
    replace hVn:=Lib.hid hVn
    replace hVs:=Lib.hid hVs
    have h0' : 0 ≤ n:=by omega
    refine (callsIn_wide (n:=9)).1 ?_
    refine callsIn_of_wp_marks Tryz.func63 rfl trivial ?_ rfl
    simp only [Tryz.ntmps63,List.size_toArray,List.length_cons,List.length_nil,Nat.reduceAdd,Nat.reduceSub,Array.replicate_succ,Array.replicate_zero,List.push_toArray,List.append_toArray,List.nil_append,List.cons_append]
    gi_wp2_with (refine ⟨trivial,?_⟩;gi_at_call 93;refine (callsIn_wide.2 (utf_All_call _ _)).mono ?_;rintro e w' ⟨rfl,rfl⟩)
    have h1:=boxed4 w 9 3 9 9 (.string s) (.int .i64 n) (.string ⟨#[]⟩) (.string s)
    refine wpIn_rangeFunc_ownF rfl (by omega) (gf:=113) (lb:=#[.pointer (some ⟨w.heap.size + 1 + 1 + 1,0,none⟩)]) rfl trivial (enters_of Tryz.func113 (by kernel_rfl) rfl)
      (all1_in Fence.wide _ trivial rfl (by omega) (w.heap.size + 1 + 1 + 1) s _ (by omega) h1.2.2.2.1.cell) walksK_t walksK_b (Below.refl _ _) (fun _=>rfl)
      (fun pre W=>(Boxed W w.heap.size 9 (.string s) ∧ Boxed W (w.heap.size + 1) 3 (.int .i64 (n - wsum (pre.map Subtype.val))) ∧ Boxed W (w.heap.size + 1 + 1) 9 (.string ⟨#[]⟩)) ∧ (fitL (pre.map Subtype.val) n = none ∧ Below w.heap.size w W))
      (fun c xs W=>(c = .ret ∧ fitL (xs.map Subtype.val) n = some (kOf n xs)) ∧ (Boxed W (w.heap.size + 1 + 1) 9 (.string (s.extract 0 (kOf n xs))) ∧ Below w.heap.size w W)) ?hI ?hIx ?h0
      (fun x=>{ tmps:=#[.string s,.int .i64 n,.pointer (some ⟨w.heap.size,0,none⟩),.pointer (some ⟨w.heap.size + 1,0,none⟩),.pointer (some ⟨w.heap.size + 1 + 1,0,none⟩),.int .i64 x.1.1,.int .i32 x.1.2.1,undef,.int .i64 n,.bool false,.string s,.func (.func 113) #[] #[.pointer (some ⟨w.heap.size + 1 + 1 + 1,0,none⟩)],.int .i64 x.1.1,.int .i32 x.1.2.1,undef,undef,undef,undef,undef,undef,undef,undef,undef,undef,undef,undef],defers:=[] }) ?assign ?body ?done ?stop
    case hI=>exact OwnFrom.and (OwnFrom.and (Own.from (boxed_own _ _ fun _=>.string s) _) (OwnFrom.and (Own.from (boxed_own _ _ fun pre : List (BRune s)=>.int .i64 (n - wsum (pre.map Subtype.val))) _) (Own.from (boxed_own _ _ fun _=>.string ⟨#[]⟩) _))) (OwnFrom.and (ownFrom_pure _ _) (ownFrom_below (Nat.le_refl _) (by simp;omega)))
    case hIx=>exact fun c=>OwnFrom.and (ownFrom_pure _ _) (OwnFrom.and (Own.from (boxed_own _ _ fun xs : List (BRune s)=>.string (s.extract 0 (kOf n xs))) _) (ownFrom_below (Nat.le_refl _) (by simp;omega)))
    case h0=>exact ⟨⟨h1.1,by have h2:=h1.2.1;simpa [wsum] using h2,h1.2.2.1⟩,rfl,h1.2.2.2.2⟩
    case assign =>
      intro l x W K hK
      simp only [benc]
      gi_wp2
      exact hK
    case body =>
      rintro l pre x W ⟨⟨hs0,hn0,hr0⟩,hfn,hB⟩ hlen
      have hge:=fitL_none _ n h0' hfn
      have hws:=wsum_bound (pre.map Subtype.val)
      have hfs:=fitL_snoc (pre.map Subtype.val) x.1 n hfn
      have hwn:=wsum_snoc (pre.map Subtype.val) x.1
      have hmap : (pre ++ [x]).map Subtype.val = pre.map Subtype.val ++ [x.1]:=by rw [List.map_append];rfl
      obtain ⟨q,hq⟩ : ∃ q : Int,n - wsum (pre.map Subtype.val) = q:=⟨_,rfl⟩
      rw [hq] at hn0 hge hfs
      have hu:=uwid_pos (x.1.2.1 : Int)
      have hwa:=width_any (x.1.2.1 : Int)
      have hxk:=x.2.2
      obtain ⟨u,hu2⟩ : ∃ u,uwid (x.1.2.1 : Int) = u:=⟨_,rfl⟩
      simp only [hu2] at hwa hu hfs hwn
      have hq3 : q ≤ 1048576:=by omega
      replace hs0:=Lib.hid hs0
      replace hn0:=Lib.hid hn0
      replace hr0:=Lib.hid hr0
      replace hq:=Lib.hid hq
      replace hfn:=Lib.hid hfn
      replace hwa:=Lib.hid hwa
      replace hmap:=Lib.hid hmap
      replace hwn:=Lib.hid hwn
      replace hlen:=Lib.hid hlen
      clear hws hu2
      have hd : 1 ≤ 9 - 1 - 1:=by omega
      by_cases hc : q < u
      · rw [if_pos hc] at hfs
        have hko2 : kOf n (pre ++ [x]) = x.1.1:=by unfold kOf;rw [hmap.out,hfs];rfl
        replace hfs:=Lib.hid hfs
        have hk0 : (0 : Int) ≤ (x.1.1 : Int):=Int.natCast_nonneg _
        have hk1 : (x.1.1 : Int) ≤ (s.size : Int):=Int.ofNat_le.2 hxk
        gi_wp2_with (refine ⟨trivial,?_⟩;gi_at_call 80;refine (CallsIn.inRound l (callsIn_wide.2 (hwa.out _))).mono ?_;rintro e w' ⟨rfl,hb1⟩;have c1:=(boxed_below hn0.out hb1).cell;have c2:=(boxed_below hn0.out hb1).frozen;have d0:=(boxed_below hs0.out hb1).cell;have d1:=(boxed_below hr0.out hb1).cell;have d2:=(boxed_below hr0.out hb1).frozen)
        have hko : KeepsOthers W (w'.setCell ⟨w.heap.size + 1 + 1,0,none⟩ (.string (s.extract 0 x.1.1))):=(keeps_below hb1).trans (keeps_set (boxed_below hr0.out hb1) _)
        refine ⟨hko,⟨rfl,?_⟩,?_,(hB.trans (hb1.mono hB.size)).setCell (p:=⟨w.heap.size + 1 + 1,0,none⟩) (by show w.heap.size ≤ w.heap.size + 1 + 1;omega) _⟩
        · rw [hmap.out,hfs.out,hko2]
        · rw [hko2]
          exact (boxed_below hr0.out hb1).set _
      · rw [if_neg hc] at hfs
        replace hfs:=Lib.hid hfs
        gi_wp2_with (refine ⟨trivial,?_⟩;gi_at_call 80;refine (CallsIn.inRound l (callsIn_wide.2 (hwa.out _))).mono ?_;rintro e w' ⟨rfl,hb1⟩;have c1:=(boxed_below hn0.out hb1).cell;have c2:=(boxed_below hn0.out hb1).frozen)
        have hko : KeepsOthers W (w'.setCell ⟨w.heap.size + 1,0,none⟩ (.int .i64 (q - u))):=(keeps_below hb1).trans (keeps_set (boxed_below hn0.out hb1) _)
        refine ⟨hko,hko.walks,⟨(boxed_below hs0.out hb1).other (by omega) _,?_,(boxed_below hr0.out hb1).other (by omega) _⟩,by rw [hmap.out];exact hfs.out,(hB.trans (hb1.mono hB.size)).setCell (p:=⟨w.heap.size + 1,0,none⟩) (by show w.heap.size ≤ w.heap.size + 1;omega) _⟩
        have h2:=(boxed_below hn0.out hb1).set (.int .i64 (q - u))
        rwa [show q - u = n - wsum ((pre ++ [x]).map Subtype.val) from by rw [hmap.out,hwn.out,← hq.out];omega] at h2 ⊢
    case done =>
      rintro D xs W hD hS ⟨⟨hs0,hn0,hr0⟩,hfn,hB⟩ hK
      have c0:=hs0.cell
      have c1:=hr0.cell
      have c2:=hr0.frozen
      rw [hS] at hfn
      have hVE:=Lib.hid (hVn.out hfn)
      replace hs0:=Lib.hid hs0
      replace hn0:=Lib.hid hn0
      replace hr0:=Lib.hid hr0
      gi_wp2
      have hne : D ≠ w.heap.size + 1 + 1:=by simp at hD;omega
      have hK2 : (W.setCell ⟨w.heap.size + 1 + 1,0,none⟩ (.string s)).heap[D]? = some (.deferred (some [])):=by rw [Below.heap_setCell _ _ _ D hne];exact hK
      refine ⟨by simp,.inl ⟨_,_,rfl,run_takeDeferred hK2,?_⟩⟩
      have hfin : ((W.setCell ⟨w.heap.size + 1 + 1,0,none⟩ (.string s)).putObj D (.deferred none)).cell? ⟨w.heap.size + 1 + 1,0,none⟩ = some (.string s):=by
        have h2:=hr0.out.set (.string s)
        have h3 : Boxed ((W.setCell ⟨w.heap.size + 1 + 1,0,none⟩ (.string s)).putObj D (.deferred none)) (w.heap.size + 1 + 1) 9 (.string s):=(World.putObj_heap_other (fun e=>hne e.symm)).trans h2
        exact h3.cell
      exact ⟨_,by simp [results,Tryz.results63,go_sem,hfin];rfl,by rw [hVE.out],((hB.setCell (p:=⟨w.heap.size + 1 + 1,0,none⟩) (by show w.heap.size ≤ w.heap.size + 1 + 1;omega) _)).trans (belowK_b (w:=w) (Nat.le_refl _) _ D _ _ (by simp at hD;omega) hK2 rfl rfl)⟩
    case stop =>
      rintro D c xs W hD ⟨r,hr⟩ ⟨⟨rfl,hfk⟩,hr0,hB⟩ hK
      have hVE:=Lib.hid (hVs.out _ (by rw [← hr];exact fitL_some _ _ _ _ hfk))
      gi_wp2
      have hne : D ≠ w.heap.size + 1 + 1:=by simp at hD;omega
      refine ⟨by simp,.inl ⟨_,_,rfl,run_takeDeferred hK,?_⟩⟩
      have hfin : (W.putObj D (.deferred none)).cell? ⟨w.heap.size + 1 + 1,0,none⟩ = some (.string (s.extract 0 (kOf n xs))):=by
        have h3 : Boxed (W.putObj D (.deferred none)) (w.heap.size + 1 + 1) 9 (.string (s.extract 0 (kOf n xs))):=(World.putObj_heap_other (fun e=>hne e.symm)).trans hr0
        exact h3.cell
      exact ⟨_,by simp [results,Tryz.results63,go_sem,hfin];rfl,by rw [hVE.out],hB.trans (belowK_b (w:=w) (Nat.le_refl _) _ D _ _ (by simp at hD;omega) hK rfl rfl)⟩
end Go.Proofs.YtpfbcepgmigeiaaGreatDoor.Q
end
section
namespace Go.Proofs.YtpfbcepgmigeiaaGreatDoor.Q
open Go Go.Lib Go.Proofs.YtpfbcepgmigeiaaGreatDoorS
set_option linter.unusedVariables false
set_option linter.unusedSimpArgs false
def e1 (n : Nat) : List UInt8:=(Utf8.encode (n : Int)).data.toList
def en (rs : List Nat) : List UInt8:=rs.flatMap e1
def eb (rs : List Nat) : ByteArray:=⟨(en rs).toArray⟩
def vr (rs : List Nat) : Prop:=∀ r ∈ rs,Utf8.valid (r : Int) = true
def nsum : List Nat → Int
  | []=>0
  | r :: l=>uwid (r : Int) + nsum l
theorem en_nil : en [] = []:=rfl
theorem en_cons (r : Nat) (l : List Nat) : en (r :: l) = e1 r ++ en l:=by simp [en]
theorem en_append (a b : List Nat) : en (a ++ b) = en a ++ en b:=by simp [en]
set_option maxRecDepth 1000000 in
theorem eb_list (rs : List Nat) : (eb rs).data.toList = en rs:=by simp [eb]
set_option maxRecDepth 1000000 in
theorem eb_size (rs : List Nat) : (eb rs).size = (en rs).length:=by show (List.toArray _).size = _;rw [List.size_toArray]
set_option maxRecDepth 1000000 in
theorem eb_of {s : ByteArray} {rs : List Nat} (h : s.data.toList = en rs) : s = eb rs:=by
  apply ByteArray.ext
  apply Array.toList_inj.1
  rw [h,eb_list]
set_option maxRecDepth 1000000 in
theorem e1_pos (n : Nat) : 1 ≤ (e1 n).length:=by
  have:=enc_ne (n : Int)
  exact List.length_pos_iff.2 this
theorem en_length (rs : List Nat) : rs.length ≤ (en rs).length:=by
  induction rs with
  | nil=>exact Nat.le_refl _
  | cons r l ih=>have:=e1_pos r;rw [en_cons,List.length_append,List.length_cons];omega
theorem vr_append {a b : List Nat} (h : vr (a ++ b)) : vr a ∧ vr b:=⟨fun r hr=>h r (List.mem_append_left _ hr),fun r hr=>h r (List.mem_append_right _ hr)⟩
theorem vr_join {a b : List Nat} (ha : vr a) (hb : vr b) : vr (a ++ b):=fun r hr=>(List.mem_append.1 hr).elim (ha r) (hb r)
theorem nsum_append (a b : List Nat) : nsum (a ++ b) = nsum a + nsum b:=by
  induction a with
  | nil=>simp [nsum]
  | cons r l ih=>rw [List.cons_append,nsum,nsum,ih];omega
theorem nsum_pos (a : List Nat) : 0 ≤ nsum a ∧ nsum a ≤ 2 * (a.length : Int):=by
  induction a with
  | nil=>simp [nsum]
  | cons r l ih=>have:=uwid_pos (r : Int);rw [nsum,List.length_cons];omega
set_option maxRecDepth 1000000 in
theorem decode_en (pre post : List Nat) (r : Nat) (hv : Utf8.valid (r : Int) = true) : Utf8.decode (eb (pre ++ r :: post)) (en pre).length = (r,(e1 r).length):=by
  rw [← decodeL_drop,eb_list,en_append,en_cons,List.drop_left]
  exact dec_enc r hv _
def offs : Nat → List Nat → List (Nat × Nat × Nat)
  | _,[]=>[]
  | p,r :: l=>(p,r,(e1 r).length) :: offs (p + (e1 r).length) l
theorem ulist_en : ∀ (post pre : List Nat) (f : Nat),vr post → post.length ≤ f → ulist (eb (pre ++ post)) f (en pre).length = offs (en pre).length post
  | [],pre,f,_,_=>by rw [List.append_nil,ulist_end _ _ _ (by rw [eb_size];omega)];rfl
  | r :: post,pre,0,_,h=>by simp at h
  | r :: post,pre,f + 1,hv,h=>by
    have h1:=decode_en pre post r (hv r (List.mem_cons_self ..))
    have h2:=e1_pos r
    rw [ulist_step _ _ _ (by rw [eb_size,en_append,en_cons,List.length_append,List.length_append];omega),h1,offs]
    dsimp only
    have ih:=ulist_en post (pre ++ [r]) f (fun x hx=>hv x (List.mem_cons_of_mem _ hx)) (by simp at h;omega)
    rw [List.append_assoc,List.singleton_append,show (en (pre ++ [r])).length = (en pre).length + (e1 r).length by rw [en_append,en_cons,en_nil];simp] at ih
    rw [ih]
theorem uall_en {rs : List Nat} (hv : vr rs) : uall (eb rs) = offs 0 rs:=by
  have:=ulist_en rs [] (eb rs).size hv (by rw [eb_size];exact en_length rs)
  exact this
theorem wsum_offs : ∀ (l : List Nat) (p : Nat),wsum (offs p l) = nsum l
  | [],_=>rfl
  | r :: l,p=>by rw [offs,wsum,nsum,wsum_offs l]
theorem ucols_en {rs : List Nat} (hv : vr rs) : ucols (eb rs) = nsum rs:=by
  unfold ucols
  rw [uall_en hv,wsum_offs]
set_option maxRecDepth 1000000 in
theorem valid_list : ∀ (f : Nat) (l : List UInt8),l.length ≤ f → ((uL l.length l).all fun t=>!(t.1 == 65533 && t.2 == 1)) = true → ∃ rs,vr rs ∧ l = en rs
  | 0,l,hf,_=>by
    obtain rfl : l = []:=List.eq_nil_of_length_eq_zero (by omega)
    exact ⟨[],(fun r hr=>by cases hr),rfl⟩
  | f + 1,l,hf,ha=>by
    by_cases hne : l = []
    · subst hne;exact ⟨[],(fun r hr=>by cases hr),rfl⟩
    · have hw:=decodeL_width l
      have hl : 0 < l.length:=List.length_pos_iff.2 hne
      obtain ⟨n,hn⟩ : ∃ n,l.length = n + 1:=⟨l.length - 1,by omega⟩
      rw [hn,uL,if_neg hne,List.all_cons,Bool.and_eq_true,uL_fuel n (l.drop (decodeL l).2).length _ (by rw [List.length_drop];omega) (Nat.le_refl _)] at ha
      obtain ⟨h1,h2⟩:=ha
      obtain ⟨rs,hv,he⟩:=valid_list f (l.drop (decodeL l).2) (by rw [List.length_drop];omega) h2
      have h3 : ¬ ((decodeL l).1 = 65533 ∧ (decodeL l).2 = 1):=by
        rintro ⟨u,v⟩
        rw [u,v] at h1
        cases h1
      have h4:=encode_decode l hne h3
      have h5 : Utf8.valid ((decodeL l).1 : Int) = true:=by
        have h6:=rune_valid ⟨l.toArray⟩
        replace h6:=of_decide_eq_true h6
        show Utf8.valid ((Utf8.decode ⟨l.toArray⟩ 0).1 : Int) = true
        simp only [Utf8.valid]
        simp
        omega
      refine ⟨(decodeL l).1 :: rs,?_,?_⟩
      · intro r hr
        rcases List.mem_cons.1 hr with rfl | hr
        · exact h5
        · exact hv r hr
      · rw [en_cons,← he,show e1 (decodeL l).1 = encodeRune ((decodeL l).1 : Int) from enc_eq _ h5,h4,List.take_append_drop]
set_option maxRecDepth 1000000 in
theorem valid_runes {s : ByteArray} (h : uvalid s = true) : ∃ rs,vr rs ∧ s = eb rs:=by
  have h1:=ulist_L s s.size 0
  rw [List.drop_zero] at h1
  have h2 : ((uL s.data.toList.length s.data.toList).all fun t=>!(t.1 == 65533 && t.2 == 1)) = true:=by
    rw [show s.data.toList.length = s.size by rw [Array.length_toList];rfl,← h1,List.all_map]
    exact h
  obtain ⟨rs,hv,he⟩:=valid_list _ _ (Nat.le_refl _) h2
  exact ⟨rs,hv,eb_of he⟩
theorem cut_first (a b : List Nat) : (eb (a ++ b)).extract 0 (en a).length = eb a:=by
  apply eb_of
  rw [show ((eb (a ++ b)).extract 0 (en a).length).data.toList = ((eb (a ++ b)).data.toList.drop 0).take ((en a).length - 0) by simp [ByteArray.data_extract,List.extract],eb_list,List.drop_zero,Nat.sub_zero,en_append,List.take_left]
theorem cut_mid (a b c : List Nat) : (eb (a ++ (b ++ c))).extract (en a).length (en (a ++ b)).length = eb b:=by
  apply eb_of
  rw [show ((eb (a ++ (b ++ c))).extract (en a).length (en (a ++ b)).length).data.toList = ((eb (a ++ (b ++ c))).data.toList.drop (en a).length).take ((en (a ++ b)).length - (en a).length) by simp [ByteArray.data_extract,List.extract],eb_list,en_append a (b ++ c),List.drop_left,en_append b c,en_append a b,List.length_append,Nat.add_sub_cancel_left,List.take_left]
theorem cut_last (a b : List Nat) : (eb (a ++ b)).extract (en a).length (en (a ++ b)).length = eb b:=by
  have:=cut_mid a b []
  rwa [List.append_nil] at this
theorem fit_offs : ∀ (l : List Nat) (p : Nat) (n : Int),0 ≤ n → (fitL (offs p l) n = none ∧ nsum l ≤ n) ∨ (∃ (a : List Nat) (r : Nat) (b : List Nat),l = a ++ r :: b ∧ fitL (offs p l) n = some (p + (en a).length) ∧ nsum a ≤ n ∧ n < nsum a + uwid (r : Int))
  | [],p,n,h0=>.inl ⟨rfl,h0⟩
  | r :: l,p,n,h0=>by
    simp only [offs,fitL]
    by_cases h : n < uwid (r : Int)
    · rw [if_pos h]
      exact .inr ⟨[],r,l,rfl,by simp [en_nil],h0,by simpa [nsum] using h⟩
    · rw [if_neg h]
      rcases fit_offs l (p + (e1 r).length) (n - uwid (r : Int)) (by omega) with ⟨h1,h2⟩ | ⟨a,q,b,rfl,h1,h2,h3⟩
      · exact .inl ⟨h1,by simp only [nsum];omega⟩
      · refine .inr ⟨r :: a,q,b,rfl,?_,?_,?_⟩
        · rw [h1]
          exact congrArg some (by rw [en_cons,List.length_append,Nat.add_assoc])
        · simp only [nsum];omega
        · simp only [nsum];omega
set_option maxRecDepth 1000000 in
theorem ufit_en {rs : List Nat} (hv : vr rs) (n : Int) (hn : 0 ≤ n) : ∃ a b,rs = a ++ b ∧ ufit (eb rs) n = eb a ∧ nsum a ≤ n ∧ (n < nsum rs → n - 1 ≤ nsum a):=by
  unfold ufit
  rw [if_neg (by omega),uall_en hv]
  rcases fit_offs rs 0 n hn with ⟨h1,h2⟩ | ⟨a,r,b,rfl,h1,h2,h3⟩
  · rw [h1]
    exact ⟨rs,[],by simp,rfl,h2,fun h=>by omega⟩
  · rw [h1,Nat.zero_add]
    have:=uwid_pos (r : Int)
    exact ⟨a,r :: b,rfl,cut_first a (r :: b),h2,fun _=>by omega⟩
def blk (n : Nat) : Bool:=uclass (n : Int) == 3
def nb (rs : List Nat) : List Nat:=rs.filter fun n=>!blk n
theorem nb_append (a b : List Nat) : nb (a ++ b) = nb a ++ nb b:=by simp [nb]
theorem nb_self {a : List Nat} (h : ∀ r ∈ a,blk r = false) : nb a = a:=by
  unfold nb
  exact List.filter_eq_self.2 fun r hr=>by rw [h r hr];rfl
def okW (a : List Nat) : Prop:=a ≠ [] ∧ vr a ∧ ∀ r ∈ a,blk r = false
theorem spans_en : ∀ (post pre cur : List Nat) (st : Option Nat) (acc : List (Nat × Nat)) (A : List (List Nat)) (f : Nat),vr (pre ++ (cur ++ post)) →
    (st = none ∧ cur = [] ∨ st = some (en pre).length ∧ okW cur) → acc.map (fun x=>(eb (pre ++ (cur ++ post))).extract x.1 x.2) = A.map eb → A.flatten = nb pre → (∀ a ∈ A,okW a) → post.length ≤ f →
    ∃ B : List (List Nat),(closeSpans (eb (pre ++ (cur ++ post))) (spansFromP blk (eb (pre ++ (cur ++ post))) f (en (pre ++ cur)).length st acc)).map (fun x=>(eb (pre ++ (cur ++ post))).extract x.1 x.2) = B.map eb ∧ B.flatten = nb (pre ++ (cur ++ post)) ∧ ∀ a ∈ B,okW a
  | [],pre,cur,st,acc,A,f,hv,hst,hacc,hA,hok,hf=>by
    rw [List.append_nil] at hv hacc ⊢
    rw [spansFromP_end _ _ _ _ _ _ (by rw [eb_size];omega)]
    rcases hst with ⟨rfl,rfl⟩ | ⟨rfl,hc⟩
    · rw [List.append_nil] at hacc ⊢
      exact ⟨A,hacc,by rw [hA],hok⟩
    · refine ⟨A ++ [cur],?_,?_,?_⟩
      · simp only [closeSpans,List.map_append,hacc,List.map_cons,List.map_nil]
        rw [eb_size,cut_last]
      · rw [List.flatten_append,hA,nb_append,nb_self hc.2.2];simp
      · intro a ha
        rcases List.mem_append.1 ha with h | h
        · exact hok a h
        · rw [List.mem_singleton.1 h];exact hc
  | r :: post,pre,cur,st,acc,A,0,hv,hst,hacc,hA,hok,hf=>by simp at hf
  | r :: post,pre,cur,st,acc,A,f + 1,hv,hst,hacc,hA,hok,hf=>by
    have hvr : Utf8.valid (r : Int) = true:=hv r (by simp)
    have hd:=decode_en (pre ++ cur) post r hvr
    rw [List.append_assoc] at hd
    have h2:=e1_pos r
    have hsz : (en (pre ++ cur)).length < (eb (pre ++ (cur ++ r :: post))).size:=by
      rw [eb_size,← List.append_assoc,en_append (pre ++ cur),en_cons,List.length_append,List.length_append];omega
    have hn : (en (pre ++ cur)).length + (e1 r).length = (en (pre ++ cur ++ [r])).length:=by rw [en_append (pre ++ cur),en_cons,en_nil];simp
    simp only [spansFromP,hsz,if_true,hd,hn]
    simp only [List.length_cons] at hf
    by_cases hb : blk r = true
    · simp only [hb,if_true]
      rcases hst with ⟨rfl,rfl⟩ | ⟨rfl,hc⟩
      · have ih:=spans_en post (pre ++ [r]) [] none acc A f (by simpa using hv) (.inl ⟨rfl,rfl⟩) (by simpa using hacc) (by rw [nb_append,hA];simp [nb,hb]) hok (by omega)
        simpa using ih
      · have ih:=spans_en post (pre ++ cur ++ [r]) [] none (acc ++ [((en pre).length,(en (pre ++ cur)).length)]) (A ++ [cur]) f (by simpa using hv) (.inl ⟨rfl,rfl⟩)
          (by
            have:=cut_mid pre cur (r :: post)
            simp only [List.append_assoc,List.nil_append,List.singleton_append,List.map_append,List.map_cons,List.map_nil,hacc,this])
          (by rw [List.flatten_append,hA,nb_append,nb_append,nb_self hc.2.2];simp [nb,hb])
          (by
            intro a ha
            rcases List.mem_append.1 ha with h | h
            · exact hok a h
            · rw [List.mem_singleton.1 h];exact hc) (by omega)
        simpa using ih
    · replace hb : blk r = false:=by simpa using hb
      simp only [hb,Bool.false_eq_true,if_false]
      rcases hst with ⟨rfl,rfl⟩ | ⟨rfl,hc⟩
      · have ih:=spans_en post pre [r] (some (en pre).length) acc A f (by simpa using hv) (.inr ⟨rfl,by simp,(fun x hx=>by rw [List.mem_singleton.1 hx];exact hvr),(fun x hx=>by rw [List.mem_singleton.1 hx];exact hb)⟩) (by simpa using hacc) hA hok (by omega)
        simpa using ih
      · have ih:=spans_en post pre (cur ++ [r]) (some (en pre).length) acc A f (by simpa using hv) (.inr ⟨rfl,by simp,vr_join hc.2.1 (fun x hx=>by rw [List.mem_singleton.1 hx];exact hvr),(by
            intro x hx
            rcases List.mem_append.1 hx with h | h
            · exact hc.2.2 x h
            · rw [List.mem_singleton.1 h];exact hb)⟩) (by simpa using hacc) hA hok (by omega)
        simpa using ih
theorem fields_en {rs : List Nat} (hv : vr rs) : ∃ B : List (List Nat),goFieldsP blk (eb rs) = B.map eb ∧ B.flatten = nb rs ∧ ∀ a ∈ B,okW a:=by
  have h:=spans_en rs [] [] none [] [] (eb rs).size (by simpa using hv) (.inl ⟨rfl,rfl⟩) rfl rfl (fun a ha=>by cases ha) (by rw [eb_size];exact en_length rs)
  exact h
end Go.Proofs.YtpfbcepgmigeiaaGreatDoor.Q
end
section
namespace Go.Proofs.YtpfbcepgmigeiaaGreatDoor.Q
open Go Go.Lib Go.Proofs.YtpfbcepgmigeiaaGreatDoorS Go.Proofs.YtpfbcepgmigeiaaGreatDoorW.PrintMore
set_option linter.unusedVariables false
set_option linter.unusedSimpArgs false
def wpiece (w : ByteArray) (width : Int) : ByteArray:=if 0 < ucols (ufit w width) then ufit w width else ufit w 2
def wpieces (width : Int) : Nat → ByteArray → Int → Option (List ByteArray × ByteArray)
  | 0,w,left=>if left > width then none else some ([],w)
  | f + 1,w,left=>if left > width then (match wpieces width f (w.extract (wpiece w width).size w.size) (left - ucols (wpiece w width)) with | some (ps,r)=>some (wpiece w width :: ps,r) | none=>none) else some ([],w)
def spc : ByteArray:=⟨#[32]⟩
def wlast (l : List ByteArray) : ByteArray:=l.getD (l.length - 1) ⟨#[]⟩
def wstep (width : Int) (l : List ByteArray) (op : Bool) (w : ByteArray) : Option (List ByteArray × Bool) :=
  if op = true ∧ ucols (wlast l) + 1 + ucols w ≤ width then some (l.set (l.length - 1) (wlast l ++ (spc ++ w)),true)
  else match wpieces width w.size w (ucols w) with
    | none=>none
    | some (ps,r)=>if r.size = 0 then some (l ++ ps,false) else some (l ++ ps ++ [r],true)
def wgo (width : Int) : List ByteArray → List ByteArray → Bool → Option (List ByteArray)
  | [],l,_=>some l
  | w :: ws,l,op=>match wstep width l op w with
    | none=>none
    | some (l2,o2)=>wgo width ws l2 o2
def wwrap (s : ByteArray) (width : Int) : Option (List ByteArray):=wgo width (goFieldsP blk s) [] false
theorem eb_append (a b : List Nat) : eb (a ++ b) = eb a ++ eb b:=by
  symm
  apply eb_of
  simp [ByteArray.data_append,en_append,eb]
set_option maxRecDepth 1000000 in
theorem spc_eb : spc = eb [32]:=by
  apply eb_of
  decide
theorem v32 : vr [32]:=fun r hr=>by rw [List.mem_singleton.1 hr];decide
theorem eb_size0 {r : List Nat} : (eb r).size = 0 ↔ r = []:=by
  constructor
  · intro h
    have:=en_length r
    rw [eb_size] at h
    exact List.eq_nil_of_length_eq_zero (by omega)
  · rintro rfl;rfl
def wm : List (List Nat) → Nat
  | []=>0
  | x :: l=>(en x).length + 1 + wm l
theorem wm_append (a b : List (List Nat)) : wm (a ++ b) = wm a + wm b:=by
  induction a with
  | nil=>simp [wm]
  | cons x l ih=>rw [List.cons_append,wm,wm,ih];omega
theorem wm_mem : ∀ (l : List (List Nat)) (x : List Nat),x ∈ l → (en x).length + 1 ≤ wm l
  | [],x,h=>by cases h
  | y :: l,x,h=>by
    rw [wm]
    rcases List.mem_cons.1 h with rfl | h
    · omega
    · have:=wm_mem l x h;omega
theorem wm_length (l : List (List Nat)) : l.length ≤ wm l:=by
  induction l with
  | nil=>exact Nat.le_refl _
  | cons x l ih=>rw [wm,List.length_cons];omega
theorem wm_flat : ∀ (l : List (List Nat)),(∀ x ∈ l,x ≠ []) → wm l ≤ 2 * (en l.flatten).length
  | [],_=>Nat.zero_le _
  | x :: l,h=>by
    have h1:=wm_flat l (fun y hy=>h y (List.mem_cons_of_mem _ hy))
    have h2:=en_length x
    have h3:=List.length_pos_iff.2 (h x (List.mem_cons_self ..))
    rw [wm,List.flatten_cons,en_append,List.length_append]
    omega
theorem wpiece_en {rs : List Nat} (hv : vr rs) {width : Int} (h5 : 5 ≤ width) (hn : width < nsum rs) : ∃ a b,rs = a ++ b ∧ wpiece (eb rs) width = eb a ∧ 1 ≤ nsum a ∧ a ≠ [] ∧ nsum a ≤ width ∧ (eb rs).extract (eb a).size (eb rs).size = eb b:=by
  obtain ⟨a,b,rfl,h1,h2,h3⟩:=ufit_en hv width (by omega)
  have h4:=h3 hn
  have hva:=(vr_append hv).1
  refine ⟨a,b,rfl,?_,by omega,?_,h2,?_⟩
  · unfold wpiece
    rw [h1,ucols_en hva,if_pos (by omega)]
  · rintro rfl
    simp only [nsum] at h4
    omega
  · rw [eb_size,eb_size]
    exact cut_last a b
theorem wpieces_en {width : Int} (h5 : 5 ≤ width) : ∀ (f : Nat) (rs : List Nat),vr rs → rs.length ≤ f → ∃ (ps : List (List Nat)) (r : List Nat),wpieces width f (eb rs) (nsum rs) = some (ps.map eb,eb r) ∧ ps.flatten ++ r = rs ∧ (∀ p ∈ ps,nsum p ≤ width ∧ vr p ∧ p ≠ []) ∧ nsum r ≤ width
  | 0,rs,hv,hf=>by
    obtain rfl : rs = []:=List.eq_nil_of_length_eq_zero (by omega)
    exact ⟨[],[],(by unfold wpieces;rw [if_neg (by simp only [nsum];omega)];rfl),rfl,(fun p hp=>by cases hp),(by simp only [nsum];omega)⟩
  | f + 1,rs,hv,hf=>by
    by_cases hn : width < nsum rs
    · obtain ⟨a,b,rfl,h1,-,h2,h3,h4⟩:=wpiece_en hv h5 hn
      obtain ⟨hva,hvb⟩:=vr_append hv
      have hla : 1 ≤ a.length:=List.length_pos_iff.2 h2
      obtain ⟨ps,r,i1,i2,i3,i4⟩:=wpieces_en h5 f b hvb (by rw [List.length_append] at hf;omega)
      refine ⟨a :: ps,r,?_,?_,?_,i4⟩
      · simp only [wpieces]
        rw [if_pos hn,h1,h4,ucols_en hva,nsum_append,show nsum a + nsum b - nsum a = nsum b by omega,i1]
        rfl
      · rw [List.flatten_cons,List.append_assoc,i2]
      · intro p hp
        rcases List.mem_cons.1 hp with rfl | hp
        · exact ⟨h3,hva,h2⟩
        · exact i3 p hp
    · exact ⟨[],rs,(by unfold wpieces;rw [if_neg (by omega)];rfl),rfl,(fun p hp=>by cases hp),(by omega)⟩
theorem wstep_en {width : Int} (h5 : 5 ≤ width) {L : List (List Nat)} {op : Bool} {w : List Nat} (hL : ∀ x ∈ L,vr x ∧ nsum x ≤ width) (hop : op = true → L ≠ []) (hw : okW w) :
    ∃ L2 o2,wstep width (L.map eb) op (eb w) = some (L2.map eb,o2) ∧ (∀ x ∈ L2,vr x ∧ nsum x ≤ width) ∧ (o2 = true → L2 ≠ []) ∧ (L2.map nb).flatten = (L.map nb).flatten ++ w ∧ wm L2 ≤ wm L + 3 * (en w).length:=by
  have hnw:=nb_self hw.2.2
  have hwl : 1 ≤ (en w).length:=by have h1:=en_length w;have h2:=List.length_pos_iff.2 hw.1;omega
  unfold wstep
  split
  · rename_i h
    have hne:=hop h.1
    obtain ⟨M,x,rfl⟩ : ∃ M x,L = M ++ [x]:=⟨L.dropLast,L.getLast hne,(List.dropLast_concat_getLast hne).symm⟩
    · have e1 : wlast ((M ++ [x]).map eb) = eb x:=by unfold wlast;simp [List.getD_eq_getElem?_getD]
      have hx:=hL x (by simp)
      have h2:=h.2
      rw [e1,ucols_en hx.1,ucols_en hw.2.1] at h2
      have hu : uwid ((32 : Nat) : Int) = 1:=by decide
      have hs : nsum (x ++ ([32] ++ w)) = nsum x + 1 + nsum w:=by
        rw [nsum_append,nsum_append]
        simp only [nsum,hu]
        omega
      refine ⟨M ++ [x ++ ([32] ++ w)],true,?_,?_,fun _=>by simp,?_,?_⟩
      · rw [e1,spc_eb,← eb_append,← eb_append]
        simp
      · intro y hy
        rcases List.mem_append.1 hy with hy | hy
        · exact hL y (List.mem_append_left _ hy)
        · rw [List.mem_singleton.1 hy]
          exact ⟨vr_join hx.1 (vr_join v32 hw.2.1),by rw [hs];exact h2⟩
      · have h32 : nb [32] = []:=by decide
        simp only [List.map_append,List.map_cons,List.map_nil,List.flatten_append,List.flatten_cons,List.flatten_nil,List.append_nil,nb_append,h32,hnw,List.nil_append,List.append_assoc]
      · have h32 : (en [32]).length = 1:=by decide
        rw [wm_append,wm_append]
        simp only [wm,en_append,List.length_append,h32]
        omega
  · obtain ⟨ps,r,h1,h2,h3,h4⟩:=wpieces_en h5 (eb w).size w hw.2.1 (by rw [eb_size];exact en_length w)
    rw [ucols_en hw.2.1,h1]
    have hvr : vr r:=by
      have hv:=hw.2.1
      rw [← h2] at hv
      exact (vr_append hv).2
    have hpn : ∀ qs : List (List Nat),(∀ r ∈ qs.flatten,blk r = false) → (qs.map nb).flatten = qs.flatten:=by
      intro qs
      induction qs with
      | nil=>intro _;rfl
      | cons q qs ih =>
        intro hq
        rw [List.map_cons,List.flatten_cons,List.flatten_cons,ih (fun r hr=>hq r (by rw [List.flatten_cons];exact List.mem_append_right _ hr)),nb_self (fun r hr=>hq r (by rw [List.flatten_cons];exact List.mem_append_left _ hr))]
    have hps:=hpn ps (fun q hq=>hw.2.2 q (by rw [← h2];exact List.mem_append_left _ hq))
    have hnr : nb r = r:=nb_self (fun q hq=>hw.2.2 q (by rw [← h2];exact List.mem_append_right _ hq))
    have hwm : wm ps ≤ 2 * (en ps.flatten).length:=wm_flat ps (fun p hp=>(h3 p hp).2.2)
    have hwe : (en w).length = (en ps.flatten).length + (en r).length:=by rw [← h2,en_append,List.length_append]
    by_cases h0 : r = []
    · subst h0
      rw [List.append_nil] at h2
      refine ⟨L ++ ps,false,?_,?_,fun h=>(by cases h),?_,?_⟩
      · simp only []
        rw [if_pos (eb_size0.2 rfl),List.map_append]
      · intro y hy
        rcases List.mem_append.1 hy with hy | hy
        · exact hL y hy
        · exact ⟨(h3 y hy).2.1,(h3 y hy).1⟩
      · rw [List.map_append,List.flatten_append,hps,h2]
      · rw [wm_append];omega
    · refine ⟨L ++ ps ++ [r],true,?_,?_,fun _=>by simp,?_,?_⟩
      · simp only []
        rw [if_neg (fun h=>h0 (eb_size0.1 h)),List.map_append,List.map_append]
        rfl
      · intro y hy
        rcases List.mem_append.1 hy with hy | hy
        · rcases List.mem_append.1 hy with hy | hy
          · exact hL y hy
          · exact ⟨(h3 y hy).2.1,(h3 y hy).1⟩
        · rw [List.mem_singleton.1 hy]
          exact ⟨hvr,h4⟩
      · rw [List.map_append,List.map_append,List.flatten_append,List.flatten_append,hps,List.map_cons,List.map_nil,List.flatten_cons,List.flatten_nil,List.append_nil,hnr,List.append_assoc,h2]
      · rw [wm_append,wm_append]
        simp only [wm]
        have h5:=en_length r
        have h6:=List.length_pos_iff.2 h0
        omega
theorem wgo_en {width : Int} (h5 : 5 ≤ width) : ∀ (ws : List (List Nat)) (L : List (List Nat)) (op : Bool),(∀ w ∈ ws,okW w) → (∀ x ∈ L,vr x ∧ nsum x ≤ width) → (op = true → L ≠ []) →
    ∃ L2,wgo width (ws.map eb) (L.map eb) op = some (L2.map eb) ∧ (∀ x ∈ L2,vr x ∧ nsum x ≤ width) ∧ (L2.map nb).flatten = (L.map nb).flatten ++ ws.flatten ∧ wm L2 ≤ wm L + 3 * (en ws.flatten).length
  | [],L,op,_,hL,_=>⟨L,rfl,hL,by simp,by omega⟩
  | w :: ws,L,op,hws,hL,hop=>by
    obtain ⟨L1,o1,h1,h2,h3,h4,h6⟩:=wstep_en h5 hL hop (hws w (List.mem_cons_self ..))
    obtain ⟨L2,i1,i2,i3,i4⟩:=wgo_en h5 ws L1 o1 (fun x hx=>hws x (List.mem_cons_of_mem _ hx)) h2 h3
    refine ⟨L2,?_,i2,?_,?_⟩
    · rw [List.map_cons,wgo,h1]
      exact i1
    · rw [i3,h4,List.flatten_cons,List.append_assoc]
    · rw [List.flatten_cons,en_append,List.length_append]
      omega
theorem nb_length (rs : List Nat) : (en (nb rs)).length ≤ (en rs).length:=by
  induction rs with
  | nil=>exact Nat.le_refl _
  | cons r l ih =>
    unfold nb at ih ⊢
    rw [List.filter_cons]
    split
    · rw [en_cons,en_cons,List.length_append,List.length_append];omega
    · rw [en_cons,List.length_append];omega
theorem wwrap_en {rs : List Nat} (hv : vr rs) {width : Int} (h5 : 5 ≤ width) : ∃ L,wwrap (eb rs) width = some (L.map eb) ∧ (∀ x ∈ L,vr x ∧ nsum x ≤ width) ∧ (L.map nb).flatten = nb rs ∧ wm L ≤ 3 * (en rs).length:=by
  obtain ⟨B,h1,h2,h3⟩:=fields_en hv
  obtain ⟨L,i1,i2,i3,i4⟩:=wgo_en h5 B [] false h3 (fun x hx=>by cases hx) (fun h=>by cases h)
  refine ⟨L,?_,i2,?_,?_⟩
  · unfold wwrap
    rw [h1]
    exact i1
  · rw [i3,h2]
    rfl
  · rw [h2] at i4
    have h4:=nb_length rs
    simp only [wm] at i4
    omega
end Go.Proofs.YtpfbcepgmigeiaaGreatDoor.Q
end
