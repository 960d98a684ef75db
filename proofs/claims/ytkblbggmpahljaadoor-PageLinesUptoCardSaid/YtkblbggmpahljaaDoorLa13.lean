/-
  PageLines, WHERE WHAT IT READS IS OF BULK AT MOST 1048576: IT RETURNS true (all lines of the drawing are as wide, and what stands in the cells changes the third lines alone), AND ITS ARGUMENTS READ AS THEY DID. The card ties utf8's two tables to the program's text.
-/
import Derived.Test.YtkblbggmpahljaaDoorCards
import Derived.Test.YtkblbggmpahljaaDoorTie
import Derived.Test.YtkblbggmpahljaaDoorLa8
import Derived.Test.YtkblbggmpahljaaDoorLa11
import Derived.Test.YtkblbggmpahljaaDoorLa12
set_option linter.unusedVariables false
set_option linter.unusedSimpArgs false
section
namespace Go.Proofs.YtkblbggmpahljaaDoor.Q
open Go.RowKit Go.Proofs.YtkblbggmpahljaaDoorW.PrintWords Go.Proofs.YtkblbggmpahljaaDoorW.PrintLast Go.Proofs.YtkblbggmpahljaaDoorW.PrintMore
set_option linter.unusedVariables false
set_option linter.unusedSimpArgs false
open Go.Proofs.YtkblbggmpahljaaDoorS
theorem pgbad_all {bl : List Bool} {cells : List ByteArray} : ∀ (d i : Nat),(∀ j,i ≤ j → j < i + d → pbad1 bl cells j = false) → pbad bl cells d i = false
  | 0,i,_=>rfl
  | d + 1,i,h=>by
    simp only [pbad,Bool.or_eq_false_iff]
    exact ⟨h i (Nat.le_refl _) (by omega),pgbad_all d (i + 1) (fun j h1 h2=>h j (by omega) (by omega))⟩
theorem pcheck_blank {title : ByteArray} {H W : Int} {bl ri be : List Bool} {cells clues : List ByteArray} (h : pcheck title H W bl ri be cells clues = 0) : pcheck title H W bl ri be (List.replicate cells.length ⟨#[]⟩) clues = 0:=by
  obtain ⟨hg,hs,_,hc,hl⟩:=pcheck_right h
  unfold pcheck
  rw [if_pos hg,if_pos (by rw [List.length_replicate];exact hs),pgbad_all _ _ (fun j _ _=>?_),if_neg (by decide),if_pos hc,if_pos hl]
  have e : rdOf ByteArray.empty (List.replicate cells.length (⟨#[]⟩ : ByteArray)) (j : Int) = ⟨#[]⟩:=by
    unfold rdOf
    rw [List.getD_eq_getElem?_getD,List.getElem?_replicate]
    split <;> rfl
  have e2 : (⟨#[]⟩ : ByteArray).toList = []:=by decide +kernel
  unfold pbad1
  rw [e,e2]
  rfl
theorem nar_size : ∀ (L : List Nat),(L.flatMap (fun r : Nat=>(Utf8.encode (r : Int)).data.toList)).length ≤ 4 * L.length
  | []=>Nat.le_refl _
  | r :: L=>by
    have h1:=nar_size L
    have h2:=encode_size (r : Int)
    have e : ∀ b : ByteArray,b.data.toList.length = b.size:=fun b=>rfl
    rw [List.flatMap_cons,List.length_append,List.length_cons,e]
    omega
theorem nar_bytes {s : ByteArray} {n : Nat} (h : Nar s.data.toList n) : s.size ≤ 4 * n:=by
  obtain ⟨L,e,hl,_⟩:=h
  have h1:=nar_size L
  have h2 : s.data.toList.length = s.size:=rfl
  rw [← e,hl,h2] at h1
  omega
theorem blank_step {cells : List ByteArray} {m : Nat} (h : m < cells.length) : (List.replicate m (⟨#[]⟩ : ByteArray) ++ cells.drop m).set m ⟨#[]⟩ = List.replicate (m + 1) ⟨#[]⟩ ++ cells.drop (m + 1):=by
  rw [List.drop_eq_getElem_cons h,List.set_append_right _ _ (by rw [List.length_replicate];exact Nat.le_refl _),List.length_replicate,Nat.sub_self,List.set_cons_zero,List.replicate_succ',List.append_assoc]
  rfl
theorem copied_f {title : ByteArray} {H W : Int} {bl ri be : List Bool} {cells clues : List ByteArray} (h1 : bl.length ≤ 1048576) (h2 : ri.length ≤ 1048576) (h3 : be.length ≤ 1048576) (h4 : cells.length ≤ 1048576) (h5 : clues.length ≤ 1048576) : rebusref21_Copied.f title H W bl ri be cells clues = some (title,H,W,bl,ri,be,cells,clues):=by
  unfold rebusref21_Copied.f
  simp only [Option.bind_some,List.length_nil,Nat.zero_add,List.nil_append]
  rw [if_pos (by omega),if_pos (by omega),if_pos (by omega),if_pos (by omega),if_pos (by omega)]
set_option maxHeartbeats 8000000 in
set_option maxRecDepth 1000000 in
theorem lines_bad {title : ByteArray} {H W : Int} {A2 : Option Addr} {c2 : Nat} {bl : List Bool} {A3 : Option Addr} {c3 : Nat} {ri : List Bool} {A4 : Option Addr} {c4 : Nat} {be : List Bool} {A5 : Option Addr} {c5 : Nat} {cells : List ByteArray} {A6 : Option Addr} {c6 : Nat} {clues : List ByteArray} {w : World} (hT : Tabs w) (hP : PuzR A2 c2 bl A3 c3 ri A4 c4 be A5 c5 cells A6 c6 clues w) (hz : PuzS title cells clues) {er : Int} (hp : pcheck title H W bl ri be cells clues = er) (he : er ≠ 0) :
    Calls Tryd.prog 3 #[.agg #[.string title,.int .i64 H,.int .i64 W,.slice A2 bl.length c2,.slice A3 ri.length c3,.slice A4 be.length c4,.slice A5 cells.length c5,.slice A6 clues.length c6]] w fun e w'=>e = .returned (.bool true) ∧ Below w.heap.size w w':=by
  have hx:=box1 w (.cells #[.string title,.int .i64 H,.int .i64 W,.slice A2 bl.length c2,.slice A3 ri.length c3,.slice A4 be.length c4,.slice A5 cells.length c5,.slice A6 clues.length c6] 27)
  replace hx:=Lib.hid hx
  replace hp:=Lib.hid hp
  have hu27:=Tryd.underlying27
  have hu24:=Tryd.underlying24
  have te : (er != 0) = true:=bne_iff_ne.2 he
  go_enter Tryd.func3,Tryd.ntmps3
  go_wp2_with (first
    | (go_at_call 4;go_must (refine (rebuslaw21_awake.calls (tabs_below hT hx.out.2)).mono ?_;rintro e w2 ⟨rfl,hb2⟩;have P2:=blk_below hx.out.1 hb2;have p2:=cells8 P2;have B2:=Lib.hid (below_step hx.out.2 hb2);clear hb2 P2))
    | (go_at_call 5;go_must (refine (draw_bad (tabs_below hT B2.out) (hP.below B2.out) hz hp.out he).mono ?_;rintro e w3 ⟨rfl,hb3⟩;have B3:=Lib.hid (below_step B2.out hb3);clear hb3)))
  go_ret
  exact ⟨rfl,B3.out⟩
set_option maxHeartbeats 16000000 in
set_option maxRecDepth 1000000 in
theorem lines_ok {title : ByteArray} {H W : Int} {A2 : Option Addr} {c2 : Nat} {bl : List Bool} {A3 : Option Addr} {c3 : Nat} {ri : List Bool} {A4 : Option Addr} {c4 : Nat} {be : List Bool} {A5 : Option Addr} {c5 : Nat} {cells : List ByteArray} {A6 : Option Addr} {c6 : Nat} {clues : List ByteArray} {w : World} (hT : Tabs w) (hP : PuzR A2 c2 bl A3 c3 ri A4 c4 be A5 c5 cells A6 c6 clues w) (hz : PuzS title cells clues) (hp : pcheck title H W bl ri be cells clues = 0) :
    Calls Tryd.prog 3 #[.agg #[.string title,.int .i64 H,.int .i64 W,.slice A2 bl.length c2,.slice A3 ri.length c3,.slice A4 be.length c4,.slice A5 cells.length c5,.slice A6 clues.length c6]] w fun e w'=>e = .returned (.bool true) ∧ Below w.heap.size w w':=by
  obtain ⟨hg,hs,hok,-,-⟩:=pcheck_right hp
  obtain ⟨hH,hW,hl⟩:=gcheck_ok hg
  have hm:=mul_small hH hW
  have hn : 1 ≤ bl.length ∧ bl.length ≤ 256:=by omega
  have hcf:=copied_f (title:=title) (H:=H) (W:=W) (bl:=bl) (ri:=ri) (be:=be) (cells:=cells) (clues:=clues) (by omega) (by omega) (by omega) hz.l hz.m
  have hpb:=pcheck_blank hp
  obtain ⟨cs2,hcs2⟩ : ∃ c,List.replicate cells.length (⟨#[]⟩ : ByteArray) = c:=⟨_,rfl⟩
  have hl2 : cs2.length = cells.length:=by rw [← hcs2,List.length_replicate]
  have hok2 : ∀ s ∈ cs2,CellOk s:=fun s h=>by rw [← hcs2] at h;rw [List.eq_of_mem_replicate h];exact cell_empty
  have hz2 : PuzS title cs2 clues:=⟨hz.t,fun s h=>by rw [← hcs2] at h;rw [List.eq_of_mem_replicate h];decide,hz.c,by rw [hl2];exact hz.l,hz.m⟩
  rw [hcs2] at hpb
  have hnA:=draw_nar hg hn.2 hok
  have hnB:=draw_nar hg hn.2 hok2
  have hlA:=draw_len (H:=H) (W:=W) (bl:=bl) (ri:=ri) (be:=be) (cells:=cells)
  have hlB:=draw_len (H:=H) (W:=W) (bl:=bl) (ri:=ri) (be:=be) (cells:=cs2)
  have hsm:=fun i h=>draw_same (H:=H) (W:=W) (bl:=bl) (ri:=ri) (be:=be) hl2.symm i h
  obtain ⟨lA,hA⟩ : ∃ l,drawB H W bl ri be cells = l:=⟨_,rfl⟩
  obtain ⟨lB,hB⟩ : ∃ l,drawB H W bl ri be cs2 = l:=⟨_,rfl⟩
  rw [hA] at hnA hlA
  rw [hB] at hnB hlB
  simp only [hA,hB] at hsm
  have hx:=box1 w (.cells #[.string title,.int .i64 H,.int .i64 W,.slice A2 bl.length c2,.slice A3 ri.length c3,.slice A4 be.length c4,.slice A5 cells.length c5,.slice A6 clues.length c6] 27)
  have hnz : 0 < cells.length:=by omega
  have hcl : cells.length ≤ 256:=by omega
  have ew3 : wrap64 (3 * H) = 3 * H:=w64 (by omega) (by omega)
  have ew31 : wrap64 (3 * H + 1) = 3 * H + 1:=w64 (by omega) (by omega)
  have eA : ((lA.length : Int) != 3 * H + 1) = false:=by rw [hlA];simp;omega
  have eB : ((lB.length : Int) != (lA.length : Int)) = false:=by rw [hlA,hlB];simp
  have eBn : (lB.length != lA.length) = false:=by rw [hlA,hlB];simp
  replace hx:=Lib.hid hx
  replace hp:=Lib.hid hp
  replace hpb:=Lib.hid hpb
  replace hcf:=Lib.hid hcf
  replace hcs2:=Lib.hid hcs2
  replace hl2:=Lib.hid hl2
  replace hz2:=Lib.hid hz2
  replace hnA:=Lib.hid hnA
  replace hnB:=Lib.hid hnB
  replace hlA:=Lib.hid hlA
  replace hlB:=Lib.hid hlB
  replace hsm:=Lib.hid hsm
  replace hA:=Lib.hid hA
  replace hB:=Lib.hid hB
  replace hl:=Lib.hid hl
  replace hs:=Lib.hid hs
  replace hm:=Lib.hid hm
  clear hok hok2 hg
  have hz0:=hz
  replace hz:=Lib.hid hz
  have hu27:=Tryd.underlying27
  have hu24:=Tryd.underlying24
  have t0 : ((0 : Int) != 0) = false:=rfl
  have tok1 : True:=trivial
  go_enter Tryd.func3,Tryd.ntmps3
  go_wp2_with (first
    | (go_at_call 4;go_must (refine (rebuslaw21_awake.calls (tabs_below hT hx.out.2)).mono ?_;rintro e w2 ⟨rfl,hb2⟩;have P2:=Lib.hid (blk_below hx.out.1 hb2);have p2:=cells8 P2.out;have B2:=Lib.hid (below_step hx.out.2 hb2);clear hb2))
    | (go_at_call 5;have tq:=tok1;go_must (clear tq tok1;refine (draw_ok (tabs_below hT B2.out) (hP.below B2.out) hz0 hp.out).mono ?_;rw [hA.out];rintro e w4 ⟨vA,rfl,RA4,hb4⟩;obtain ⟨AA,cA,rfl⟩:=Kd.R_slice RA4;have P4:=Lib.hid (blk_below P2.out hb4);have p4:=cells8 P4.out;have B4:=Lib.hid (below_step B2.out hb4);replace RA4:=Lib.hid RA4;clear hb4 p2 P2))
    | (go_at_call 6;go_must (have hPx:=hP.below B4.out;refine (rebusref21_Copied.calls title H W A2 c2 bl A3 c3 ri A4 c4 be A5 c5 cells A6 c6 clues title H W bl ri be cells clues _ hPx.r2 hPx.k2 hPx.r3 hPx.k3 hPx.r4 hPx.k4 hPx.r5 hPx.k5 hPx.r6 hPx.k6 hcf.out).mono ?_;clear hPx;rintro e w5 ⟨v3,v4,v5,v6,v7,rfl,R3,R4,R5,R6,R7,hb5⟩;obtain ⟨D3,k3,rfl⟩:=Kd.R_slice R3;obtain ⟨D4,k4,rfl⟩:=Kd.R_slice R4;obtain ⟨D5,k5,rfl⟩:=Kd.R_slice R5;obtain ⟨g6,k6,rfl⟩:=R_form_n R6 (n:=cells.length) rfl hnz;obtain ⟨D7,k7,rfl⟩:=Kd.R_slice R7;have q6:=box1 w5 (.cells #[.string title,.int .i64 H,.int .i64 W,.slice D3 bl.length k3,.slice D4 ri.length k4,.slice D5 be.length k5,.slice (some ⟨g6,0,none⟩) cells.length k6,.slice D7 clues.length k7] 27);have Q6:=Lib.hid q6.1;have s6:=cells8 q6.1;replace R3:=Lib.hid (Kd.R_below (Kd.R_mono R3 (fun _ _=>trivial)) q6.2);replace R4:=Lib.hid (Kd.R_below (Kd.R_mono R4 (fun _ _=>trivial)) q6.2);replace R5:=Lib.hid (Kd.R_below (Kd.R_mono R5 (fun _ _=>trivial)) q6.2);replace R6:=Lib.hid (Kd.R_below R6 q6.2);replace R7:=Lib.hid (Kd.R_below R7 q6.2);have B6:=Lib.hid (hb5.trans (q6.2.mono hb5.size));clear hb5 q6)))
  clear s6 p4
  go_loopw [26] (fun v26 wr=>∃ (m : Nat) (j : Int),v26 = .int .i64 j ∧ Hid (j = m ∧ m ≤ cells.length) ∧ Hid (wr.heap[w5.heap.size]? = some (.cells #[.string title,.int .i64 H,.int .i64 W,.slice D3 bl.length k3,.slice D4 ri.length k4,.slice D5 be.length k5,.slice (some ⟨g6,0,none⟩) cells.length k6,.slice D7 clues.length k7] 27 (0,0))) ∧ Hid (Kd.R Kd.bool 4 wr w4.heap.size (fun _=>True) (.slice D3 bl.length k3) bl) ∧ Hid (Kd.R Kd.bool 4 wr w4.heap.size (fun _=>True) (.slice D4 ri.length k4) ri) ∧ Hid (Kd.R Kd.bool 4 wr w4.heap.size (fun _=>True) (.slice D5 be.length k5) be) ∧ Hid (Kd.R Kd.string 9 wr w4.heap.size (fun k_=>some k_ ≠ (Value.slice D7 clues.length k7).ownBlock) (.slice (some ⟨g6,0,none⟩) cells.length k6) (List.replicate m ⟨#[]⟩ ++ cells.drop m)) ∧ Hid (Kd.R Kd.string 9 wr w4.heap.size (fun k_=>some k_ ≠ (Value.slice (some ⟨g6,0,none⟩) cells.length k6).ownBlock) (.slice D7 clues.length k7) clues) ∧ Hid (Below w4.heap.size w4 wr)) (fun v26 _=>cells.length - (intOf v26).toNat)
  case atStart=>exact ⟨0,0,rfl,Lib.hid ⟨rfl,Nat.zero_le _⟩,Q6,R3,R4,R5,R6,R7,B6⟩
  case round =>
    clear Q6 R3 R4 R5 R6 R7 B6
    obtain ⟨m,j,rfl,hj,Q6,R3,R4,R5,R6,R7,B6⟩:=hrel
    have s6:=cells8 Q6.out
    by_cases hlt : m < cells.length
    · have tlt : decide (j < (cells.length : Int)) = true:=decide_eq_true (by have:=hj.out;omega)
      have hj0 : 0 ≤ j:=by have:=hj.out;omega
      have hj1 : j < (cells.length : Int):=by have:=hj.out;omega
      have hjm : j.toNat = m:=by have:=hj.out;omega
      have FC:=Kd.R_celln ByteArray.empty R6.out j hj0 hj1
      have FZ:=FC.2
      replace FC:=FC.1
      have PG:=Kd.R_putg R6.out j ⟨#[]⟩
      have Q9:=Lib.hid (blk_grown Q6.out PG.2 (Kd.R_ne R6.out Q6.out (by decide)))
      have T3:=Lib.hid (Kd.R_over' (v:=.slice (some ⟨g6,0,none⟩) cells.length k6) R3.out (Kd.R_typed R6.out) (by decide) PG.2)
      have T4:=Lib.hid (Kd.R_over' (v:=.slice (some ⟨g6,0,none⟩) cells.length k6) R4.out (Kd.R_typed R6.out) (by decide) PG.2)
      have T5:=Lib.hid (Kd.R_over' (v:=.slice (some ⟨g6,0,none⟩) cells.length k6) R5.out (Kd.R_typed R6.out) (by decide) PG.2)
      have T7:=Lib.hid (Kd.R_grown R7.out PG.2 (fun k hk=>hk))
      have T8:=Lib.hid (B6.out.setCell (p:=⟨g6,j.toNat,none⟩) (Kd.R_base R6.out g6 rfl) (.string ⟨#[]⟩))
      have T6:=PG.1
      have hbs:=blank_step hlt
      rw [← hjm] at hbs
      have hset : (List.replicate m (⟨#[]⟩ : ByteArray) ++ cells.drop m).set j.toNat ⟨#[]⟩ = List.replicate (m + 1) ⟨#[]⟩ ++ cells.drop (m + 1):=by rw [hjm];exact blank_step hlt
      rw [hset] at T6
      replace T6:=Lib.hid T6
      replace hlt:=Lib.hid hlt
      replace hjm:=Lib.hid hjm
      clear PG hbs hset R3 R4 R5 R6 R7 B6
      go_wp2
      refine ⟨⟨m + 1,j + 1,rfl,Lib.hid ⟨by have:=hj.out;omega,hlt.out⟩,Q9,T3,T4,T5,T6,T7,T8⟩,?_⟩
      simp only [intOf];have:=hj.out;have:=hlt.out;omega
    · have tlt : decide (j < (cells.length : Int)) = false:=decide_eq_false (by have:=hj.out;omega)
      have hmE : m = cells.length:=by have:=hj.out;omega
      have R6b:=R6.out
      rw [hmE,List.drop_length,List.append_nil,hcs2.out] at R6b
      obtain ⟨-,kk3,C3⟩:=Kd.R_reads' R3.out
      obtain ⟨-,kk4,C4⟩:=Kd.R_reads' R4.out
      obtain ⟨-,kk5,C5⟩:=Kd.R_reads' R5.out
      obtain ⟨-,kk6,C6⟩:=Kd.R_reads' R6b
      obtain ⟨-,kk7,C7⟩:=Kd.R_reads' R7.out
      have hQ:=PuzR.mk C3 kk3 C4 kk4 C5 kk5 C6 (by rw [hl2.out];exact kk6) C7 kk7
      have dr:=draw_ok (tabs_below hT (B4.out.trans (B6.out.mono B4.out.size))) hQ hz2.out hpb.out
      rw [hl2.out,hB.out] at dr
      have P6:=Lib.hid (blk_below P4.out B6.out)
      have RA6:=Lib.hid (Kd.R_below RA4.out B6.out)
      have p6:=cells8 P6.out
      replace dr:=Lib.hid dr
      replace B6:=Lib.hid (B4.out.trans (B6.out.mono B4.out.size))
      clear R3 R4 R5 R6 R7 R6b C3 C4 C5 C6 C7 kk3 kk4 kk5 kk6 kk7 hQ hlt hmE hj P4 RA4
      go_wp2_with (go_at_call 5;go_must (refine dr.out.mono ?_;rintro e w7 ⟨vB,rfl,RB7,hb7⟩;obtain ⟨AB,cB,rfl⟩:=Kd.R_slice RB7;have P7:=Lib.hid (blk_below P6.out hb7);have p7:=cells8 P7.out;have RA7:=Lib.hid (Kd.R_below RA6.out hb7);have B7:=Lib.hid (below_step B6.out hb7);replace RB7:=Lib.hid RB7;clear hb7 p6 P6 RA6 B6 s6 dr))
      obtain ⟨-,-,CA⟩:=Kd.R_reads' RA7.out
      obtain ⟨-,-,CB⟩:=Kd.R_reads' RB7.out
      replace CA:=Lib.hid CA
      replace CB:=Lib.hid CB
      clear RA7 RB7 p7
      go_loopw [60] (fun v60 wl=>∃ (i : Nat) (q : Int),v60 = .int .i64 q ∧ Hid (q = i ∧ i ≤ lA.length) ∧ Hid (Below w7.heap.size w7 wl)) (fun v60 _=>lA.length - (intOf v60).toNat)
      case atStart=>exact ⟨0,0,rfl,Lib.hid ⟨rfl,Nat.zero_le _⟩,Lib.hid (Below.refl _ _)⟩
      case round =>
        obtain ⟨i,q,rfl,hq,hBr⟩:=hrel
        have hlen : lA.length ≤ 49:=by rw [hlA.out];omega
        by_cases hlt : i < lA.length
        · have tlt : decide (q < (lA.length : Int)) = true:=decide_eq_true (by have:=hq.out;omega)
          have hq0 : 0 ≤ q:=by have:=hq.out;omega
          have hqA : q < (lA.length : Int):=by have:=hq.out;omega
          have hltB : i < lB.length:=by rw [hlB.out,← hlA.out];exact hlt
          have hqB : q < (lB.length : Int):=by have:=hq.out;omega
          obtain ⟨adA,eA1,zA⟩:=Kd.at_string CA.out q hq0 hqA
          cases eA1
          obtain ⟨adB,eB1,zB⟩:=Kd.at_string CB.out q hq0 hqB
          cases eB1
          have xA : rdOf ByteArray.empty lA q = lA[i]:=by rw [hq.out.1];simp [rdOf,List.getD_eq_getElem?_getD,hlt]
          have xB : rdOf ByteArray.empty lB q = lB[i]:=by rw [hq.out.1];simp [rdOf,List.getD_eq_getElem?_getD,hltB]
          have nA:=hnA.out _ (List.getElem_mem hlt)
          have nB:=hnB.out _ (List.getElem_mem hltB)
          have hsame : i % 3 ≠ 2 → lA[i] = lB[i]:=fun h=>by
            have h1:=hsm.out i h
            rw [List.getElem?_eq_getElem hlt,List.getElem?_eq_getElem hltB] at h1
            exact Option.some.inj h1
          rw [xA] at zA
          rw [xB] at zB
          obtain ⟨x,hxA⟩ : ∃ x,lA[i] = x:=⟨_,rfl⟩
          obtain ⟨y,hyB⟩ : ∃ y,lB[i] = y:=⟨_,rfl⟩
          rw [hxA] at zA nA hsame
          rw [hyB] at zB nB hsame
          have zx:=nar_bytes nA
          have zy:=nar_bytes nB
          obtain ⟨cw,hcw⟩ : ∃ c : Int,4 * W + 1 = c:=⟨_,rfl⟩
          have ew4 : wrap64 (4 * W) = 4 * W:=w64 (by omega) (by omega)
          have ew41 : wrap64 (4 * W + 1) = cw:=by rw [← hcw];exact w64 (by omega) (by omega)
          have kA : Calls Tryd.prog 7 #[.string x] = Calls Tryd.prog 7 #[.string x]:=rfl
          have ecw : ((4 * W.toNat + 1 : Nat) : Int) = cw:=by omega
          obtain ⟨u,hu⟩ : ∃ u : Int,((i % 3 : Nat) : Int) = u:=⟨_,rfl⟩
          have em : q.tmod 3 = u:=by rw [hq.out.1,Int.tmod_eq_emod_of_nonneg (by omega)];omega
          replace hu:=Lib.hid hu
          have hzx : x.size ≤ 140737488351232:=by omega
          have hzy : y.size ≤ 140737488351232:=by omega
          clear xA xB kA hxA hyB zx zy hsm hltB
          replace nA:=Lib.hid nA
          replace nB:=Lib.hid nB
          replace hcw:=Lib.hid hcw
          replace ecw:=Lib.hid ecw
          have P8:=cells8 (blk_below P7.out hBr.out)
          have pW:=P8.2.2.1
          clear P8
          replace zA:=pw_cell_below hBr.out zA
          replace zB:=pw_cell_below hBr.out zB
          go_wp2
          refine start_ (n:=40) (S:=fun w'=>w'.cell? ⟨w.heap.size,2,none⟩ = some (.int .i64 W) ∧ w'.cell? (adA.add q.toNat) = some (.string x) ∧ w'.cell? (adB.add q.toNat) = some (.string y)) (ds:=[]) #[false,false,false,false,false,false,false,false,false,false,false,false,false,false,false,false,false,false,false,false,false,false,false,false,false,false,false,false,false,false,false,false,false,false,false,false,false,false,false,false] (by kernel_rfl) rfl rfl (⟨pw_cell_below (below_drew (Below.refl _ _)) pW,pw_cell_below (below_drew (Below.refl _ _)) zA,pw_cell_below (below_drew (Below.refl _ _)) zB⟩) (fun hHeld=>?_)
          replace hBr:=Lib.hid (below_drew hBr.out)
          clear zA zB pW
          generalize wr.drew = w8 at hBr hHeld ⊢
          refine pure_ (i:=0) (N:=some 63) (v:=?_) (a':=?_) #[true,false,false,false,false,false,false,false,false,false,false,false,false,false,false,false,false,false,false,false,false,false,false,false,false,false,false,false,false,false,false,false,false,false,false,false,false,false,false,false] rfl rfl (by kernel_rfl) (fun _ _ _ h=>h) (Or.inl ⟨by rfl,?_⟩) ?_ ?_
          rotate_left
          · intro w';go_simp;try with_reducible rfl
          rotate_left
          · simp only [Act.put,List.setIfInBounds_toArray,List.set_cons_zero,List.set_cons_succ,i64_w,i32_w];rfl
          refine pure_ (i:=1) (N:=some 64) (v:=?_) (a':=?_) #[true,true,false,false,false,false,false,false,false,false,false,false,false,false,false,false,false,false,false,false,false,false,false,false,false,false,false,false,false,false,false,false,false,false,false,false,false,false,false,false] rfl rfl (by kernel_rfl) (fun _ _ _ h=>h) (Or.inl ⟨by rfl,?_⟩) ?_ ?_
          rotate_left
          · intro w';go_simp;try with_reducible rfl
          rotate_left
          · simp only [Act.put,List.setIfInBounds_toArray,List.set_cons_zero,List.set_cons_succ,i64_w,i32_w];rfl
          refine pure_ (i:=2) (N:=some 65) (v:=?_) (a':=?_) #[true,true,true,false,false,false,false,false,false,false,false,false,false,false,false,false,false,false,false,false,false,false,false,false,false,false,false,false,false,false,false,false,false,false,false,false,false,false,false,false] rfl rfl (by kernel_rfl) (fun _ _ _ h=>h) (Or.inl ⟨by rfl,?_⟩) ?_ ?_
          rotate_left
          · intro w';go_simp;try with_reducible rfl
          rotate_left
          · simp only [Act.put,List.setIfInBounds_toArray,List.set_cons_zero,List.set_cons_succ,i64_w,i32_w];rfl
          refine take_ (i:=3) (N:=some 66) (v:=?_) (a':=?_) #[true,true,true,true,false,false,false,false,false,false,false,false,false,false,false,false,false,false,false,false,false,false,false,false,false,false,false,false,false,false,false,false,false,false,false,false,false,false,false,false] rfl rfl (by kernel_rfl) (fun _ _ _ h=>h) (Or.inl ⟨by rfl,?_⟩) hHeld ?_ ?_
          rotate_left
          · rintro w' ⟨s0,s1,s2⟩;go_simp;try with_reducible rfl
          rotate_left
          · simp only [Act.put,List.setIfInBounds_toArray,List.set_cons_zero,List.set_cons_succ,i64_w,i32_w];rfl
          refine pure_ (i:=5) (N:=some 68) (v:=?_) (a':=?_) #[true,true,true,true,false,true,false,false,false,false,false,false,false,false,false,false,false,false,false,false,false,false,false,false,false,false,false,false,false,false,false,false,false,false,false,false,false,false,false,false] rfl rfl (by kernel_rfl) (fun _ _ _ h=>h) (Or.inl ⟨by rfl,?_⟩) ?_ ?_
          rotate_left
          · intro w';go_simp;try with_reducible rfl
          rotate_left
          · simp only [Act.put,List.setIfInBounds_toArray,List.set_cons_zero,List.set_cons_succ,i64_w,i32_w];rfl
          refine pure_ (i:=6) (N:=some 69) (v:=?_) (a':=?_) #[true,true,true,true,false,true,true,false,false,false,false,false,false,false,false,false,false,false,false,false,false,false,false,false,false,false,false,false,false,false,false,false,false,false,false,false,false,false,false,false] rfl rfl (by kernel_rfl) (fun _ _ _ h=>h) (Or.inl ⟨by rfl,?_⟩) ?_ ?_
          rotate_left
          · intro w';go_simp;try with_reducible rfl
          rotate_left
          · simp only [Act.put,List.setIfInBounds_toArray,List.set_cons_zero,List.set_cons_succ,i64_w,i32_w];rfl
          refine take_ (i:=7) (N:=some 70) (v:=?_) (a':=?_) #[true,true,true,true,false,true,true,true,false,false,false,false,false,false,false,false,false,false,false,false,false,false,false,false,false,false,false,false,false,false,false,false,false,false,false,false,false,false,false,false] rfl rfl (by kernel_rfl) (fun _ _ _ h=>h) (Or.inl ⟨by rfl,?_⟩) hHeld ?_ ?_
          rotate_left
          · rintro w' ⟨s0,s1,s2⟩;go_simp;try with_reducible rfl
          rotate_left
          · simp only [Act.put,List.setIfInBounds_toArray,List.set_cons_zero,List.set_cons_succ,i64_w,i32_w];rfl
          refine pure_ (i:=8) (N:=some 71) (v:=?_) (a':=?_) #[true,true,true,true,false,true,true,true,true,false,false,false,false,false,false,false,false,false,false,false,false,false,false,false,false,false,false,false,false,false,false,false,false,false,false,false,false,false,false,false] rfl rfl (by kernel_rfl) (fun _ _ _ h=>h) (Or.inl ⟨by rfl,?_⟩) ?_ ?_
          rotate_left
          · intro w';go_simp;try with_reducible rfl
          rotate_left
          · simp only [Act.put,List.setIfInBounds_toArray,List.set_cons_zero,List.set_cons_succ,i64_w,i32_w];rfl
          rw [ew4]
          refine pure_ (i:=9) (N:=some 72) (v:=?_) (a':=?_) #[true,true,true,true,false,true,true,true,true,true,false,false,false,false,false,false,false,false,false,false,false,false,false,false,false,false,false,false,false,false,false,false,false,false,false,false,false,false,false,false] rfl rfl (by kernel_rfl) (fun _ _ _ h=>h) (Or.inl ⟨by rfl,?_⟩) ?_ ?_
          rotate_left
          · intro w';go_simp;try with_reducible rfl
          rotate_left
          · simp only [Act.put,List.setIfInBounds_toArray,List.set_cons_zero,List.set_cons_succ,i64_w,i32_w];rfl
          rw [ew41]
          refine one_ (i:=4) (N:=some 67) #[true,true,true,true,true,true,true,true,true,true,false,false,false,false,false,false,false,false,false,false,false,false,false,false,false,false,false,false,false,false,false,false,false,false,false,false,false,false,false,false] rfl rfl (by kernel_rfl) (by decide) (fun K hK=>?_)
          refine goes_ Tryd.func7 (by kernel_rfl) rfl #[.string x] (by rfl) rfl rfl (by first | (go_simp;done) | (go_simp;rfl)) ?_
          refine (columns_calls x _ _ hzx nA.out).mono ?_
          rw [ecw.out]
          rintro e w9 ⟨rfl,hb9⟩
          refine ⟨_,rfl,?_⟩
          have HS9:=And.intro (pw_cell_below hb9 hHeld.1) (And.intro (pw_cell_below hb9 hHeld.2.1) (pw_cell_below hb9 hHeld.2.2))
          replace hBr:=Lib.hid (hBr.out.trans (hb9.mono hBr.out.size))
          clear hb9 hHeld
          refine hK.out _ _ (HS9) (fun hHeld=>?_)
          clear hK K
          refine norm_ (a':=?_) ?_ ?_
          rotate_left
          · show Act.put _ (some 67) _ = _
            simp only [Act.put,List.setIfInBounds_toArray,List.set_cons_zero,List.set_cons_succ,i64_w,i32_w];rfl
          clear HS9
          refine pure_ (i:=10) (N:=some 73) (v:=?_) (a':=?_) #[true,true,true,true,true,true,true,true,true,true,true,false,false,false,false,false,false,false,false,false,false,false,false,false,false,false,false,false,false,false,false,false,false,false,false,false,false,false,false,false] rfl rfl (by kernel_rfl) (fun _ _ _ h=>h) (Or.inl ⟨by rfl,?_⟩) ?_ ?_
          rotate_left
          · intro w';go_simp;try with_reducible rfl
          rotate_left
          · simp only [Act.put,List.setIfInBounds_toArray,List.set_cons_zero,List.set_cons_succ,i64_w,i32_w];rfl
          refine pure_ (i:=11) (N:=some 74) (v:=?_) (a':=?_) #[true,true,true,true,true,true,true,true,true,true,true,true,false,false,false,false,false,false,false,false,false,false,false,false,false,false,false,false,false,false,false,false,false,false,false,false,false,false,false,false] rfl rfl (by kernel_rfl) (fun _ _ _ h=>h) (Or.inl ⟨by rfl,?_⟩) ?_ ?_
          rotate_left
          · intro w';go_simp;try with_reducible rfl
          rotate_left
          · simp only [Act.put,List.setIfInBounds_toArray,List.set_cons_zero,List.set_cons_succ,i64_w,i32_w];rfl
          refine pure_ (i:=12) (N:=some 75) (v:=?_) (a':=?_) #[true,true,true,true,true,true,true,true,true,true,true,true,true,false,false,false,false,false,false,false,false,false,false,false,false,false,false,false,false,false,false,false,false,false,false,false,false,false,false,false] rfl rfl (by kernel_rfl) (fun _ _ _ h=>h) (Or.inl ⟨by rfl,?_⟩) ?_ ?_
          rotate_left
          · intro w';go_simp;try with_reducible rfl
          rotate_left
          · simp only [Act.put,List.setIfInBounds_toArray,List.set_cons_zero,List.set_cons_succ,i64_w,i32_w];rfl
          refine pure_ (i:=13) (N:=some 76) (v:=?_) (a':=?_) #[true,true,true,true,true,true,true,true,true,true,true,true,true,true,false,false,false,false,false,false,false,false,false,false,false,false,false,false,false,false,false,false,false,false,false,false,false,false,false,false] rfl rfl (by kernel_rfl) (fun _ _ _ h=>h) (Or.inl ⟨by rfl,?_⟩) ?_ ?_
          rotate_left
          · intro w';go_simp;try with_reducible rfl
          rotate_left
          · simp only [Act.put,List.setIfInBounds_toArray,List.set_cons_zero,List.set_cons_succ,i64_w,i32_w];rfl
          refine pure_ (i:=14) (N:=some 77) (v:=?_) (a':=?_) #[true,true,true,true,true,true,true,true,true,true,true,true,true,true,true,false,false,false,false,false,false,false,false,false,false,false,false,false,false,false,false,false,false,false,false,false,false,false,false,false] rfl rfl (by kernel_rfl) (fun _ _ _ h=>h) (Or.inl ⟨by rfl,?_⟩) ?_ ?_
          rotate_left
          · intro w';go_simp;try with_reducible rfl
          rotate_left
          · simp only [Act.put,List.setIfInBounds_toArray,List.set_cons_zero,List.set_cons_succ,i64_w,i32_w];rfl
          refine take_ (i:=15) (N:=some 78) (v:=?_) (a':=?_) #[true,true,true,true,true,true,true,true,true,true,true,true,true,true,true,true,false,false,false,false,false,false,false,false,false,false,false,false,false,false,false,false,false,false,false,false,false,false,false,false] rfl rfl (by kernel_rfl) (fun _ _ _ h=>h) (Or.inl ⟨by rfl,?_⟩) hHeld ?_ ?_
          rotate_left
          · rintro w' ⟨s0,s1,s2⟩;go_simp;try with_reducible rfl
          rotate_left
          · simp only [Act.put,List.setIfInBounds_toArray,List.set_cons_zero,List.set_cons_succ,i64_w,i32_w];rfl
          refine pure_ (i:=17) (N:=some 80) (v:=?_) (a':=?_) #[true,true,true,true,true,true,true,true,true,true,true,true,true,true,true,true,false,true,false,false,false,false,false,false,false,false,false,false,false,false,false,false,false,false,false,false,false,false,false,false] rfl rfl (by kernel_rfl) (fun _ _ _ h=>h) (Or.inl ⟨by rfl,?_⟩) ?_ ?_
          rotate_left
          · intro w';go_simp;try with_reducible rfl
          rotate_left
          · simp only [Act.put,List.setIfInBounds_toArray,List.set_cons_zero,List.set_cons_succ,i64_w,i32_w];rfl
          refine pure_ (i:=18) (N:=some 81) (v:=?_) (a':=?_) #[true,true,true,true,true,true,true,true,true,true,true,true,true,true,true,true,false,true,true,false,false,false,false,false,false,false,false,false,false,false,false,false,false,false,false,false,false,false,false,false] rfl rfl (by kernel_rfl) (fun _ _ _ h=>h) (Or.inl ⟨by rfl,?_⟩) ?_ ?_
          rotate_left
          · intro w';go_simp;try with_reducible rfl
          rotate_left
          · simp only [Act.put,List.setIfInBounds_toArray,List.set_cons_zero,List.set_cons_succ,i64_w,i32_w];rfl
          refine take_ (i:=19) (N:=some 82) (v:=?_) (a':=?_) #[true,true,true,true,true,true,true,true,true,true,true,true,true,true,true,true,false,true,true,true,false,false,false,false,false,false,false,false,false,false,false,false,false,false,false,false,false,false,false,false] rfl rfl (by kernel_rfl) (fun _ _ _ h=>h) (Or.inl ⟨by rfl,?_⟩) hHeld ?_ ?_
          rotate_left
          · rintro w' ⟨s0,s1,s2⟩;go_simp;try with_reducible rfl
          rotate_left
          · simp only [Act.put,List.setIfInBounds_toArray,List.set_cons_zero,List.set_cons_succ,i64_w,i32_w];rfl
          refine pure_ (i:=20) (N:=some 83) (v:=?_) (a':=?_) #[true,true,true,true,true,true,true,true,true,true,true,true,true,true,true,true,false,true,true,true,true,false,false,false,false,false,false,false,false,false,false,false,false,false,false,false,false,false,false,false] rfl rfl (by kernel_rfl) (fun _ _ _ h=>h) (Or.inl ⟨by rfl,?_⟩) ?_ ?_
          rotate_left
          · intro w';go_simp;try with_reducible rfl
          rotate_left
          · simp only [Act.put,List.setIfInBounds_toArray,List.set_cons_zero,List.set_cons_succ,i64_w,i32_w];rfl
          rw [ew4]
          refine pure_ (i:=21) (N:=some 84) (v:=?_) (a':=?_) #[true,true,true,true,true,true,true,true,true,true,true,true,true,true,true,true,false,true,true,true,true,true,false,false,false,false,false,false,false,false,false,false,false,false,false,false,false,false,false,false] rfl rfl (by kernel_rfl) (fun _ _ _ h=>h) (Or.inl ⟨by rfl,?_⟩) ?_ ?_
          rotate_left
          · intro w';go_simp;try with_reducible rfl
          rotate_left
          · simp only [Act.put,List.setIfInBounds_toArray,List.set_cons_zero,List.set_cons_succ,i64_w,i32_w];rfl
          rw [ew41]
          refine one_ (i:=16) (N:=some 79) #[true,true,true,true,true,true,true,true,true,true,true,true,true,true,true,true,true,true,true,true,true,true,false,false,false,false,false,false,false,false,false,false,false,false,false,false,false,false,false,false] rfl rfl (by kernel_rfl) (by decide) (fun K hK=>?_)
          refine goes_ Tryd.func7 (by kernel_rfl) rfl #[.string y] (by rfl) rfl rfl (by first | (go_simp;done) | (go_simp;rfl)) ?_
          refine (columns_calls y _ _ hzy nB.out).mono ?_
          rw [ecw.out]
          rintro e w10 ⟨rfl,hb9⟩
          refine ⟨_,rfl,?_⟩
          have HS9:=And.intro (pw_cell_below hb9 hHeld.1) (And.intro (pw_cell_below hb9 hHeld.2.1) (pw_cell_below hb9 hHeld.2.2))
          replace hBr:=Lib.hid (hBr.out.trans (hb9.mono hBr.out.size))
          clear hb9 hHeld
          refine hK.out _ _ (HS9) (fun hHeld=>?_)
          clear hK K
          refine norm_ (a':=?_) ?_ ?_
          rotate_left
          · show Act.put _ (some 79) _ = _
            simp only [Act.put,List.setIfInBounds_toArray,List.set_cons_zero,List.set_cons_succ,i64_w,i32_w];rfl
          clear HS9
          refine pure_ (i:=22) (N:=some 85) (v:=?_) (a':=?_) #[true,true,true,true,true,true,true,true,true,true,true,true,true,true,true,true,true,true,true,true,true,true,true,false,false,false,false,false,false,false,false,false,false,false,false,false,false,false,false,false] rfl rfl (by kernel_rfl) (fun _ _ _ h=>h) (Or.inl ⟨by rfl,?_⟩) ?_ ?_
          rotate_left
          · intro w';go_simp;try with_reducible rfl
          rotate_left
          · simp only [Act.put,List.setIfInBounds_toArray,List.set_cons_zero,List.set_cons_succ,i64_w,i32_w];rfl
          refine pure_ (i:=23) (N:=some 86) (v:=?_) (a':=?_) #[true,true,true,true,true,true,true,true,true,true,true,true,true,true,true,true,true,true,true,true,true,true,true,true,false,false,false,false,false,false,false,false,false,false,false,false,false,false,false,false] rfl rfl (by kernel_rfl) (fun _ _ _ h=>h) (Or.inl ⟨by rfl,?_⟩) ?_ ?_
          rotate_left
          · intro w';go_simp;try with_reducible rfl
          rotate_left
          · simp only [Act.put,List.setIfInBounds_toArray,List.set_cons_zero,List.set_cons_succ,i64_w,i32_w];rfl
          refine pure_ (i:=24) (N:=some 87) (v:=?_) (a':=?_) #[true,true,true,true,true,true,true,true,true,true,true,true,true,true,true,true,true,true,true,true,true,true,true,true,true,false,false,false,false,false,false,false,false,false,false,false,false,false,false,false] rfl rfl (by kernel_rfl) (fun _ _ _ h=>h) (Or.inl ⟨by rfl,?_⟩) ?_ ?_
          rotate_left
          · intro w';go_simp;try with_reducible rfl
          rotate_left
          · simp only [Act.put,List.setIfInBounds_toArray,List.set_cons_zero,List.set_cons_succ,i64_w,i32_w];rfl
          refine pure_ (i:=25) (N:=some 88) (v:=?_) (a':=?_) #[true,true,true,true,true,true,true,true,true,true,true,true,true,true,true,true,true,true,true,true,true,true,true,true,true,true,false,false,false,false,false,false,false,false,false,false,false,false,false,false] rfl rfl (by kernel_rfl) (fun _ _ _ h=>h) (Or.inl ⟨by rfl,?_⟩) ?_ ?_
          rotate_left
          · intro w';go_simp;try with_reducible rfl
          rotate_left
          · simp only [Act.put,List.setIfInBounds_toArray,List.set_cons_zero,List.set_cons_succ,i64_w,i32_w];rfl
          refine pure_ (i:=26) (N:=some 89) (v:=?_) (a':=?_) #[true,true,true,true,true,true,true,true,true,true,true,true,true,true,true,true,true,true,true,true,true,true,true,true,true,true,true,false,false,false,false,false,false,false,false,false,false,false,false,false] rfl rfl (by kernel_rfl) (fun _ _ _ h=>h) (Or.inl ⟨by rfl,?_⟩) ?_ ?_
          rotate_left
          · intro w';go_simp;try with_reducible rfl
          rotate_left
          · simp only [Act.put,List.setIfInBounds_toArray,List.set_cons_zero,List.set_cons_succ,i64_w,i32_w];rfl
          by_cases h3 : i % 3 = 2
          · have hu2 : u = 2:=by have:=hu.out;omega
            subst hu2
            have t3 : ((2 : Int) != 2) = false:=rfl
            refine pure_ (i:=27) (N:=some 90) (v:=?_) (a':=?_) #[true,true,true,true,true,true,true,true,true,true,true,true,true,true,true,true,true,true,true,true,true,true,true,true,true,true,true,true,false,false,false,false,false,false,false,false,false,false,false,false] rfl rfl (by kernel_rfl) (fun _ _ _ h=>h) (Or.inl ⟨by rfl,?_⟩) ?_ ?_
            rotate_left
            · intro w';go_simp;try with_reducible rfl
            rotate_left
            · simp only [Act.put,List.setIfInBounds_toArray,List.set_cons_zero,List.set_cons_succ,i64_w,i32_w];rfl
            refine pure_ (i:=28) (N:=some 91) (v:=?_) (a':=?_) #[true,true,true,true,true,true,true,true,true,true,true,true,true,true,true,true,true,true,true,true,true,true,true,true,true,true,true,true,true,false,false,false,false,false,false,false,false,false,false,false] rfl rfl (by kernel_rfl) (fun _ _ _ h=>h) (Or.inl ⟨by rfl,?_⟩) ?_ ?_
            rotate_left
            · intro w';go_simp;try with_reducible rfl
            rotate_left
            · simp only [Act.put,List.setIfInBounds_toArray,List.set_cons_zero,List.set_cons_succ,i64_w,i32_w];rfl
            refine pure_ (i:=29) (N:=some 92) (v:=undef) (a':=?_) #[true,true,true,true,true,true,true,true,true,true,true,true,true,true,true,true,true,true,true,true,true,true,true,true,true,true,true,true,true,true,false,false,false,false,false,false,false,false,false,false] rfl rfl (by kernel_rfl) (fun _ _ _ h=>h) (Or.inr ⟨by rfl,rfl⟩) ?_ ?_
            rotate_left
            · simp only [Act.put,List.setIfInBounds_toArray,List.set_cons_zero,List.set_cons_succ,i64_w,i32_w];rfl
            refine pure_ (i:=30) (N:=some 93) (v:=undef) (a':=?_) #[true,true,true,true,true,true,true,true,true,true,true,true,true,true,true,true,true,true,true,true,true,true,true,true,true,true,true,true,true,true,true,false,false,false,false,false,false,false,false,false] rfl rfl (by kernel_rfl) (fun _ _ _ h=>h) (Or.inr ⟨by rfl,rfl⟩) ?_ ?_
            rotate_left
            · simp only [Act.put,List.setIfInBounds_toArray,List.set_cons_zero,List.set_cons_succ,i64_w,i32_w];rfl
            refine pure_ (i:=31) (N:=some 94) (v:=undef) (a':=?_) #[true,true,true,true,true,true,true,true,true,true,true,true,true,true,true,true,true,true,true,true,true,true,true,true,true,true,true,true,true,true,true,true,false,false,false,false,false,false,false,false] rfl rfl (by kernel_rfl) (fun _ _ _ h=>h) (Or.inr ⟨by rfl,rfl⟩) ?_ ?_
            rotate_left
            · simp only [Act.put,List.setIfInBounds_toArray,List.set_cons_zero,List.set_cons_succ,i64_w,i32_w];rfl
            refine pure_ (i:=32) (N:=some 95) (v:=undef) (a':=?_) #[true,true,true,true,true,true,true,true,true,true,true,true,true,true,true,true,true,true,true,true,true,true,true,true,true,true,true,true,true,true,true,true,true,false,false,false,false,false,false,false] rfl rfl (by kernel_rfl) (fun _ _ _ h=>h) (Or.inr ⟨by rfl,rfl⟩) ?_ ?_
            rotate_left
            · simp only [Act.put,List.setIfInBounds_toArray,List.set_cons_zero,List.set_cons_succ,i64_w,i32_w];rfl
            refine pure_ (i:=33) (N:=some 96) (v:=undef) (a':=?_) #[true,true,true,true,true,true,true,true,true,true,true,true,true,true,true,true,true,true,true,true,true,true,true,true,true,true,true,true,true,true,true,true,true,true,false,false,false,false,false,false] rfl rfl (by kernel_rfl) (fun _ _ _ h=>h) (Or.inr ⟨by rfl,rfl⟩) ?_ ?_
            rotate_left
            · simp only [Act.put,List.setIfInBounds_toArray,List.set_cons_zero,List.set_cons_succ,i64_w,i32_w];rfl
            refine pure_ (i:=34) (N:=some 97) (v:=undef) (a':=?_) #[true,true,true,true,true,true,true,true,true,true,true,true,true,true,true,true,true,true,true,true,true,true,true,true,true,true,true,true,true,true,true,true,true,true,true,false,false,false,false,false] rfl rfl (by kernel_rfl) (fun _ _ _ h=>h) (Or.inr ⟨by rfl,rfl⟩) ?_ ?_
            rotate_left
            · simp only [Act.put,List.setIfInBounds_toArray,List.set_cons_zero,List.set_cons_succ,i64_w,i32_w];rfl
            refine pure_ (i:=35) (N:=some 98) (v:=undef) (a':=?_) #[true,true,true,true,true,true,true,true,true,true,true,true,true,true,true,true,true,true,true,true,true,true,true,true,true,true,true,true,true,true,true,true,true,true,true,true,false,false,false,false] rfl rfl (by kernel_rfl) (fun _ _ _ h=>h) (Or.inr ⟨by rfl,rfl⟩) ?_ ?_
            rotate_left
            · simp only [Act.put,List.setIfInBounds_toArray,List.set_cons_zero,List.set_cons_succ,i64_w,i32_w];rfl
            refine pure_ (i:=36) (N:=some 99) (v:=undef) (a':=?_) #[true,true,true,true,true,true,true,true,true,true,true,true,true,true,true,true,true,true,true,true,true,true,true,true,true,true,true,true,true,true,true,true,true,true,true,true,true,false,false,false] rfl rfl (by kernel_rfl) (fun _ _ _ h=>h) (Or.inr ⟨by rfl,rfl⟩) ?_ ?_
            rotate_left
            · simp only [Act.put,List.setIfInBounds_toArray,List.set_cons_zero,List.set_cons_succ,i64_w,i32_w];rfl
            refine pure_ (i:=37) (N:=some 100) (v:=undef) (a':=?_) #[true,true,true,true,true,true,true,true,true,true,true,true,true,true,true,true,true,true,true,true,true,true,true,true,true,true,true,true,true,true,true,true,true,true,true,true,true,true,false,false] rfl rfl (by kernel_rfl) (fun _ _ _ h=>h) (Or.inr ⟨by rfl,rfl⟩) ?_ ?_
            rotate_left
            · simp only [Act.put,List.setIfInBounds_toArray,List.set_cons_zero,List.set_cons_succ,i64_w,i32_w];rfl
            refine pure_ (i:=38) (N:=some 101) (v:=?_) (a':=?_) #[true,true,true,true,true,true,true,true,true,true,true,true,true,true,true,true,true,true,true,true,true,true,true,true,true,true,true,true,true,true,true,true,true,true,true,true,true,true,true,false] rfl rfl (by kernel_rfl) (fun _ _ _ h=>h) (Or.inl ⟨by rfl,?_⟩) ?_ ?_
            rotate_left
            · intro w';go_simp;try with_reducible rfl
            rotate_left
            · simp only [Act.put,List.setIfInBounds_toArray,List.set_cons_zero,List.set_cons_succ,i64_w,i32_w];rfl
            refine pure_ (i:=39) (N:=some 102) (v:=?_) (a':=?_) #[true,true,true,true,true,true,true,true,true,true,true,true,true,true,true,true,true,true,true,true,true,true,true,true,true,true,true,true,true,true,true,true,true,true,true,true,true,true,true,true] rfl rfl (by kernel_rfl) (fun _ _ _ h=>h) (Or.inl ⟨by rfl,?_⟩) ?_ ?_
            rotate_left
            · intro w';go_simp;try with_reducible rfl
            rotate_left
            · simp only [Act.put,List.setIfInBounds_toArray,List.set_cons_zero,List.set_cons_succ,i64_w,i32_w];rfl
            refine done_ (by kernel_rfl) ?_
            go_wp2
            refine ⟨⟨i + 1,q + 1,rfl,Lib.hid ⟨by have:=hq.out;omega,hlt⟩,hBr⟩,?_⟩
            simp only [intOf];have:=hq.out;omega
          · have hxy:=hsame h3
            subst hxy
            have t3 : (u != 2) = true:=bne_iff_ne.2 (by have:=hu.out;omega)
            refine pure_ (i:=27) (N:=some 90) (v:=?_) (a':=?_) #[true,true,true,true,true,true,true,true,true,true,true,true,true,true,true,true,true,true,true,true,true,true,true,true,true,true,true,true,false,false,false,false,false,false,false,false,false,false,false,false] rfl rfl (by kernel_rfl) (fun _ _ _ h=>h) (Or.inl ⟨by rfl,?_⟩) ?_ ?_
            rotate_left
            · intro w';go_simp;try with_reducible rfl
            rotate_left
            · simp only [Act.put,List.setIfInBounds_toArray,List.set_cons_zero,List.set_cons_succ,i64_w,i32_w];rfl
            refine pure_ (i:=28) (N:=some 91) (v:=?_) (a':=?_) #[true,true,true,true,true,true,true,true,true,true,true,true,true,true,true,true,true,true,true,true,true,true,true,true,true,true,true,true,true,false,false,false,false,false,false,false,false,false,false,false] rfl rfl (by kernel_rfl) (fun _ _ _ h=>h) (Or.inl ⟨by rfl,?_⟩) ?_ ?_
            rotate_left
            · intro w';go_simp;try with_reducible rfl
            rotate_left
            · simp only [Act.put,List.setIfInBounds_toArray,List.set_cons_zero,List.set_cons_succ,i64_w,i32_w];rfl
            refine pure_ (i:=29) (N:=some 92) (v:=?_) (a':=?_) #[true,true,true,true,true,true,true,true,true,true,true,true,true,true,true,true,true,true,true,true,true,true,true,true,true,true,true,true,true,true,false,false,false,false,false,false,false,false,false,false] rfl rfl (by kernel_rfl) (fun _ _ _ h=>h) (Or.inl ⟨by rfl,?_⟩) ?_ ?_
            rotate_left
            · intro w';go_simp;try with_reducible rfl
            rotate_left
            · simp only [Act.put,List.setIfInBounds_toArray,List.set_cons_zero,List.set_cons_succ,i64_w,i32_w];rfl
            refine pure_ (i:=30) (N:=some 93) (v:=?_) (a':=?_) #[true,true,true,true,true,true,true,true,true,true,true,true,true,true,true,true,true,true,true,true,true,true,true,true,true,true,true,true,true,true,true,false,false,false,false,false,false,false,false,false] rfl rfl (by kernel_rfl) (fun _ _ _ h=>h) (Or.inl ⟨by rfl,?_⟩) ?_ ?_
            rotate_left
            · intro w';go_simp;try with_reducible rfl
            rotate_left
            · simp only [Act.put,List.setIfInBounds_toArray,List.set_cons_zero,List.set_cons_succ,i64_w,i32_w];rfl
            refine pure_ (i:=31) (N:=some 94) (v:=?_) (a':=?_) #[true,true,true,true,true,true,true,true,true,true,true,true,true,true,true,true,true,true,true,true,true,true,true,true,true,true,true,true,true,true,true,true,false,false,false,false,false,false,false,false] rfl rfl (by kernel_rfl) (fun _ _ _ h=>h) (Or.inl ⟨by rfl,?_⟩) ?_ ?_
            rotate_left
            · intro w';go_simp;try with_reducible rfl
            rotate_left
            · simp only [Act.put,List.setIfInBounds_toArray,List.set_cons_zero,List.set_cons_succ,i64_w,i32_w];rfl
            refine take_ (i:=32) (N:=some 95) (v:=?_) (a':=?_) #[true,true,true,true,true,true,true,true,true,true,true,true,true,true,true,true,true,true,true,true,true,true,true,true,true,true,true,true,true,true,true,true,true,false,false,false,false,false,false,false] rfl rfl (by kernel_rfl) (fun _ _ _ h=>h) (Or.inl ⟨by rfl,?_⟩) hHeld ?_ ?_
            rotate_left
            · rintro w' ⟨s0,s1,s2⟩;go_simp;try with_reducible rfl
            rotate_left
            · simp only [Act.put,List.setIfInBounds_toArray,List.set_cons_zero,List.set_cons_succ,i64_w,i32_w];rfl
            refine pure_ (i:=33) (N:=some 96) (v:=?_) (a':=?_) #[true,true,true,true,true,true,true,true,true,true,true,true,true,true,true,true,true,true,true,true,true,true,true,true,true,true,true,true,true,true,true,true,true,true,false,false,false,false,false,false] rfl rfl (by kernel_rfl) (fun _ _ _ h=>h) (Or.inl ⟨by rfl,?_⟩) ?_ ?_
            rotate_left
            · intro w';go_simp;try with_reducible rfl
            rotate_left
            · simp only [Act.put,List.setIfInBounds_toArray,List.set_cons_zero,List.set_cons_succ,i64_w,i32_w];rfl
            refine pure_ (i:=34) (N:=some 97) (v:=?_) (a':=?_) #[true,true,true,true,true,true,true,true,true,true,true,true,true,true,true,true,true,true,true,true,true,true,true,true,true,true,true,true,true,true,true,true,true,true,true,false,false,false,false,false] rfl rfl (by kernel_rfl) (fun _ _ _ h=>h) (Or.inl ⟨by rfl,?_⟩) ?_ ?_
            rotate_left
            · intro w';go_simp;try with_reducible rfl
            rotate_left
            · simp only [Act.put,List.setIfInBounds_toArray,List.set_cons_zero,List.set_cons_succ,i64_w,i32_w];rfl
            refine pure_ (i:=35) (N:=some 98) (v:=?_) (a':=?_) #[true,true,true,true,true,true,true,true,true,true,true,true,true,true,true,true,true,true,true,true,true,true,true,true,true,true,true,true,true,true,true,true,true,true,true,true,false,false,false,false] rfl rfl (by kernel_rfl) (fun _ _ _ h=>h) (Or.inl ⟨by rfl,?_⟩) ?_ ?_
            rotate_left
            · intro w';go_simp;try with_reducible rfl
            rotate_left
            · simp only [Act.put,List.setIfInBounds_toArray,List.set_cons_zero,List.set_cons_succ,i64_w,i32_w];rfl
            refine take_ (i:=36) (N:=some 99) (v:=?_) (a':=?_) #[true,true,true,true,true,true,true,true,true,true,true,true,true,true,true,true,true,true,true,true,true,true,true,true,true,true,true,true,true,true,true,true,true,true,true,true,true,false,false,false] rfl rfl (by kernel_rfl) (fun _ _ _ h=>h) (Or.inl ⟨by rfl,?_⟩) hHeld ?_ ?_
            rotate_left
            · rintro w' ⟨s0,s1,s2⟩;go_simp;try with_reducible rfl
            rotate_left
            · simp only [Act.put,List.setIfInBounds_toArray,List.set_cons_zero,List.set_cons_succ,i64_w,i32_w];rfl
            refine pure_ (i:=37) (N:=some 100) (v:=?_) (a':=?_) #[true,true,true,true,true,true,true,true,true,true,true,true,true,true,true,true,true,true,true,true,true,true,true,true,true,true,true,true,true,true,true,true,true,true,true,true,true,true,false,false] rfl rfl (by kernel_rfl) (fun _ _ _ h=>h) (Or.inl ⟨by rfl,?_⟩) ?_ ?_
            rotate_left
            · intro w';go_simp;try with_reducible rfl
            rotate_left
            · simp only [Act.put,List.setIfInBounds_toArray,List.set_cons_zero,List.set_cons_succ,i64_w,i32_w];rfl
            refine pure_ (i:=38) (N:=some 101) (v:=?_) (a':=?_) #[true,true,true,true,true,true,true,true,true,true,true,true,true,true,true,true,true,true,true,true,true,true,true,true,true,true,true,true,true,true,true,true,true,true,true,true,true,true,true,false] rfl rfl (by kernel_rfl) (fun _ _ _ h=>h) (Or.inl ⟨by rfl,?_⟩) ?_ ?_
            rotate_left
            · intro w';go_simp;try with_reducible rfl
            rotate_left
            · simp only [Act.put,List.setIfInBounds_toArray,List.set_cons_zero,List.set_cons_succ,i64_w,i32_w];rfl
            refine pure_ (i:=39) (N:=some 102) (v:=?_) (a':=?_) #[true,true,true,true,true,true,true,true,true,true,true,true,true,true,true,true,true,true,true,true,true,true,true,true,true,true,true,true,true,true,true,true,true,true,true,true,true,true,true,true] rfl rfl (by kernel_rfl) (fun _ _ _ h=>h) (Or.inl ⟨by rfl,?_⟩) ?_ ?_
            rotate_left
            · intro w';go_simp;try with_reducible rfl
            rotate_left
            · simp only [Act.put,List.setIfInBounds_toArray,List.set_cons_zero,List.set_cons_succ,i64_w,i32_w];rfl
            refine done_ (by kernel_rfl) ?_
            go_wp2
            refine ⟨⟨i + 1,q + 1,rfl,Lib.hid ⟨by have:=hq.out;omega,hlt⟩,hBr⟩,?_⟩
            simp only [intOf];have:=hq.out;omega
        · have tlt : decide (q < (lA.length : Int)) = false:=decide_eq_false (by have:=hq.out;omega)
          go_wp2
          go_ret
          exact ⟨rfl,B7.out.trans (hBr.out.mono B7.out.size)⟩
theorem PageLines.calls {title : ByteArray} {H W : Int} {A2 : Option Addr} {c2 : Nat} {bl : List Bool} {A3 : Option Addr} {c3 : Nat} {ri : List Bool} {A4 : Option Addr} {c4 : Nat} {be : List Bool} {A5 : Option Addr} {c5 : Nat} {cells : List ByteArray} {A6 : Option Addr} {c6 : Nat} {clues : List ByteArray} {w : World} (hT : Tabs w) (hP : PuzR A2 c2 bl A3 c3 ri A4 c4 be A5 c5 cells A6 c6 clues w) (hz : PuzS title cells clues) :
    Calls Tryd.prog 3 #[.agg #[.string title,.int .i64 H,.int .i64 W,.slice A2 bl.length c2,.slice A3 ri.length c3,.slice A4 be.length c4,.slice A5 cells.length c5,.slice A6 clues.length c6]] w fun e w'=>e = .returned (.bool true) ∧ Below w.heap.size w w':=by
  by_cases hp : pcheck title H W bl ri be cells clues = 0
  · exact lines_ok hT hP hz hp
  · exact lines_bad hT hP hz rfl hp
end Go.Proofs.YtkblbggmpahljaaDoor.Q
end
section
namespace Go.Proofs.YtkblbggmpahljaaDoor.lines
open Go.ChangeShapes Go.WideShapes Go.ChangeAt Go.RowKit Go.Joins
open Go.Proofs.YtkblbggmpahljaaDoor.Q Go.Proofs.YtkblbggmpahljaaDoorS
set_option maxRecDepth 100000
def wArgs : Array Value:=#[.agg #[.string ⟨#[]⟩,.int .i64 0,.int .i64 0,.slice none 0 0,.slice none 0 0,.slice none 0 0,.slice none 0 0,.slice none 0 0]]
def wData {H : Type} : List (DataW H):=[.agg [.lit (.string []),.agg [.lit (.int .i64 0),.lit (.int .i64 0),.nil,.nil,.nil],.nil,.nil]]
theorem laid_met (os : Os) : laidMet Tryd.prog Rows.pageLinesUptoRow.laid ((laidWorld os).forCall (fun _ _=>0) ⟨#[],wArgs,[]⟩).memory :=
  laidMet_of_run' 8 (by kernel_rfl) (by kernel_rfl)
theorem reads (os : Os) {H : Type} (enc : TypeId × Value → H) : ∃ places,DataW.whole enc Tryd.prog ((laidWorld os).forCall (fun _ _=>0) ⟨#[],wArgs,[]⟩).memory Tryd.f3.params.toList Rows.pageLinesSpec.vars false wArgs.toList 8 = some (wData,[],places) :=
  ⟨[],by kernel_rfl⟩
theorem contract (H : Type) (enc : TypeId × Value → H) (W : World) (base : Nat) (args : Array Value) (ds gs : List (DataW H)) (before : List MemPlace)
    (hval : ∀ (j : Nat) t v,Tryd.f3.params[j]? = some t → args[j]? = some v → Value.okWide Tryd.prog W .any base t v)
    (hW : DataW.Whole enc Tryd.prog Tryd.f3.params.toList Rows.pageLinesSpec.vars false W args.toList ds gs before) (hL : laidMetH Tryd.prog Rows.pageLinesUptoRow.laid W) (hSh : W.ShapedOpen Tryd.prog) (hk : Rows.uptoSmall H (ds ++ gs) = true) :
    Calls Tryd.prog 3 args W fun e W'=>∃ v,e = .returned v ∧ Rows.pageLinesSpec.post enc Tryd.prog Tryd.f3 false true false false W args v W':=by
  have hW':=hW
  obtain ⟨p,q,hA0,hV,rfl,hfz,hnd⟩:=hW
  have hA : DataW.TrodAll enc Tryd.prog W 0 (fun _=>true) true Tryd.f3.params.toList args.toList ds p:=hA0
  rw [Tryd.params3] at hA hval
  obtain ⟨v0,d0,rfl,rfl,h0⟩:=trodAll_one hA
  obtain ⟨rfl,rfl⟩:=trodVars_none hV
  simp only [List.append_nil] at hk
  have hb:=bulk_bound hk
  simp only [Rows.uptoBulkAll] at hb
  obtain ⟨title,Hh,Ww,A2,c2,bl,A3,c3,ri,A4,c4,be,A5,c5,cells,A6,c6,clues,rfl,hP,hz⟩:=open_puzzle (hval 0 27 v0 rfl rfl) h0
  refine (PageLines.calls (tabs_of_laid hL hSh) hP (hz (by omega)).1).mono fun e W' ⟨he,hbel⟩=>?_
  subst he
  have hlt : ∀ x ∈ p,x.block < W.heap.size:=fun x hx=>hW'.lt x (by simpa using hx)
  refine ⟨_,rfl,post_of_below (pa:=p) (pv:=[]) hW' (fun _ _ _=>trodAll_mk1 (shut_bool Tryd.underlying4 true)) (fun sp hsp=>?_) (fun _ _=>rfl) (by simp) hbel (ok_one (by kernel_rfl) rfl (okWide_bool_mk Tryd.underlying4 _))⟩
  have stay : ∀ {t : TypeId} {v : Value} {d : DataW H} {ps : List MemPlace},Tryd.prog.readableRec t = true → t < Tryd.prog.types.size → DataW.Trod enc Tryd.prog W 0 (fun _=>true) true t v d ps → (∀ x ∈ ps,x ∈ p) → DataW.Trod enc Tryd.prog W' 0 sp true t v d ps:=fun hr hrow h hin =>
    WideElems.Trod_stays laid_out hr hrow h (fun x hx=>hbel.same (hlt x (hin x hx))) (fun x hx=>hsp x (by simpa using hin x hx))
  exact trodAll_mk1 (stay (by kernel_rfl) (of_decide_eq_true (by kernel_rfl)) h0 (fun x hx=>hx))
theorem liftedUpto (os : Os) (started : os.Started) (H : Type) (enc : TypeId × Value → H) (F : Stop.Interp) :
    ReturnsInHanded {} Tryd.checked os 3 .any ((Rows.OpenSpec.upto Rows.pageLinesSpec).preRow enc Tryd.prog Tryd.f3 Rows.pageLinesUptoRow.domain false Rows.pageLinesUptoRow.laid) (((Rows.OpenSpec.upto Rows.pageLinesSpec).at F).post enc Tryd.prog Tryd.f3 false true false false):=by
  obtain ⟨places,hx⟩:=reads os enc
  refine returnsInHanded_of_row (C:=Tryd.checked) (s:=Rows.OpenSpec.upto Rows.pageLinesSpec) own_knob started (by kernel_rfl) Tryd.func3
    (witness_row_atRef (enc:=enc) (C:=Tryd.checked) false (laidWorld os) wArgs rfl (by kernel_rfl) (by kernel_rfl) (by kernel_rfl)
      (OpenSpec.preRow_of_cond 8 hx (by kernel_rfl) (fun k hk=>by cases hk;kernel_rfl) (by kernel_rfl) (laid_met os))) ?_
  intro W base args ds gs before hval hW _ hcond _ hL hSh _
  exact contract H enc W base args ds gs before hval hW hL hSh (hcond _ rfl)
theorem saidUpto : Rows.PageLinesUptoSaid :=
  OpenClaim.holds_of_cond 3 Tryd.f3 rfl rfl rfl rfl rfl rfl rfl ⟨rfl,rfl,rfl,rfl,rfl⟩ rfl rfl rfl rfl rfl (by kernel_rfl) Tryd.func3 (by kernel_rfl)
    (of_decide_eq_true (by kernel_rfl)) (by unfold Func.isWrapper;first | (rw [if_pos (by decide +kernel)];kernel_rfl) | (rw [if_neg (by decide +kernel)];exact ⟨rfl,rfl⟩))
    (fun os started H enc _ F=>by rw [OpenClaim.pre_eq_preRow];exact liftedUpto os started H enc F)
theorem plain (f : FuncId) (fn : Func) (hf : Tryd.pinned.checked.prog.funcNamed "rebus/rebuslaw21.PageLines" = some f) (hfn : Tryd.pinned.checked.prog.funcs[f]? = some fn) :
    false = Tryd.pinned.checked.prog.looks [] ∧ ∀ (j : Nat) t,fn.params[j]? = some t → Tryd.pinned.checked.prog.wantsStandIn t = false:=by
  obtain rfl : f = 3:=Option.some.inj ((show Tryd.prog.funcNamed "rebus/rebuslaw21.PageLines" = some 3 by kernel_rfl).symm.trans hf) |>.symm
  obtain rfl : fn = Tryd.f3:=(Option.some.inj (Tryd.func3.symm.trans hfn)).symm
  refine ⟨by kernel_rfl,fun j t ht=>?_⟩
  rw [Tryd.params3] at ht
  have hm : t ∈ #[27]:=Array.mem_of_getElem? ht
  simp only [List.mem_toArray,List.mem_cons,List.not_mem_nil,or_false] at hm
  rcases hm with rfl
  · exact (show Tryd.prog.wantsStandIn 27 = false by kernel_rfl)
theorem cardUpto : Rows.PageLinesUptoCardSaid :=
  Claim7.holds_tied_plain_at .later [] _ _ _ _ saidUpto (fun _ h=>by cases h) (by kernel_rfl) (fun _ h=>by cases h) pageLinesUpto_row_tie rfl ⟨rfl,rfl⟩ (by kernel_rfl) rfl plain (by kernel_rfl)
end Go.Proofs.YtkblbggmpahljaaDoor.lines
end
#print axioms Go.Proofs.YtkblbggmpahljaaDoor.lines.cardUpto
