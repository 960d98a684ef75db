/- PART 6 OF A PROOF: Lean functions, and that the program computes them; written by hand and by a program. Not trusted: Lean checks it. -/
import Derived.Test.YtpfbcepgmigeiaaGreatDoorPa3
import Derived.Test.YtpfbcepgmigeiaaGreatDoorPa4
import Derived.Test.YtpfbcepgmigeiaaGreatDoorPa5
set_option linter.unusedVariables false
set_option linter.unusedSimpArgs false
section
namespace Go.Proofs.YtpfbcepgmigeiaaGreatDoor.Q
open Go.RowKit Go.Proofs.YtpfbcepgmigeiaaGreatDoorW.PrintWords Go.Proofs.YtpfbcepgmigeiaaGreatDoorW.PrintLast Go.Proofs.YtpfbcepgmigeiaaGreatDoorW.PrintMore
attribute [local go_sem] max2_int min2_int max_two min_two max_three min_three max_four min_four
set_option linter.unusedVariables false
set_option linter.unusedSimpArgs false
open Go.Proofs.YtpfbcepgmigeiaaGreatDoorS
theorem gat_rd (l : List Bool) (i : Int) : gat l i = rdOf false l i:=rfl
theorem w64 {x : Int} (h0 : -9223372036854775808 ≤ x) (h1 : x ≤ 9223372036854775807) : wrap64 x = x:=by unfold wrap64;omega
theorem cell_facts {H W i : Int} (hW : 1 ≤ W) (h0 : 0 ≤ i) (h1 : i < H * W) : 0 ≤ i / W ∧ i / W < H ∧ 0 ≤ i % W ∧ i % W < W ∧ (i % W ≠ W - 1 → i + 1 < H * W) ∧ (i / W ≠ H - 1 → i + W < H * W):=by
 have hm0 : 0 ≤ i % W:=Int.emod_nonneg _ (by omega)
 have hmW : i % W < W:=Int.emod_lt_of_pos _ (by omega)
 have hq0 : 0 ≤ i / W:=Int.ediv_nonneg h0 (by omega)
 have hqH : i / W < H:=Int.ediv_lt_of_lt_mul (by omega) h1
 have hsum:=Int.mul_ediv_add_emod i W
 rw [Int.mul_comm] at hsum
 have e1 : (i / W + 1) * W ≤ H * W:=Int.mul_le_mul_of_nonneg_right (by omega) (by omega)
 rw [Int.add_mul,Int.one_mul] at e1
 refine ⟨hq0,hqH,hm0,hmW,fun h=>by omega,fun h=>?_⟩
 have e2 : (i / W + 2) * W ≤ H * W:=Int.mul_le_mul_of_nonneg_right (by omega) (by omega)
 rw [Int.add_mul] at e2
 omega
theorem mul_small {H W : Int} (hH : 1 ≤ H ∧ H ≤ 16) (hW : 1 ≤ W ∧ W ≤ 16) : 1 ≤ H * W ∧ H * W ≤ 256:=by
 have h1 : H * W ≤ 16 * 16:=Int.mul_le_mul hH.2 hW.2 (by omega) (by omega)
 have h2 : 1 * 1 ≤ H * W:=Int.mul_le_mul hH.1 hW.1 (by omega) (by omega)
 omega
theorem small_sums {i W : Int} (h0 : 0 ≤ i) (h1 : i < 256) (h2 : 1 ≤ W) (h3 : W ≤ 16) : wrap64 (i + 1) = i + 1 ∧ wrap64 (i + W) = i + W ∧ 0 ≤ i + W :=
 ⟨w64 (by omega) (by omega),w64 (by omega) (by omega),by omega⟩
theorem small_less {q H W : Int} (h2 : 1 ≤ W) (h3 : W ≤ 16) (h4 : 1 ≤ H) (h5 : H ≤ 16) (h6 : 0 ≤ q) (h7 : q < H) : wrap64 (W - 1) = W - 1 ∧ wrap64 (H - 1) = H - 1 ∧ wrap64 q = q :=
 ⟨w64 (by omega) (by omega),w64 (by omega) (by omega),w64 (by omega) (by omega)⟩
set_option maxHeartbeats 4000000 in
theorem grid_Check_l0 (H W : Int) (bl ri be : List Bool) (hH : 1 ≤ H ∧ H ≤ 16) (hW : 1 ≤ W ∧ W ≤ 16) (hl : (bl.length : Int) = H * W ∧ (ri.length : Int) = H * W ∧ (be.length : Int) = H * W) :
  ∀ (d i k : Nat),i + d = bl.length → d < k → grid_Check.l0 k bl (bl.length : Int) (i : Int) H W bl ri be = some (if gbads H W bl ri be d i then 52 else 0):=by
 have hn:=mul_small hH hW
 intro d
 induction d with
 | zero =>
  intro i k hi hk
  obtain ⟨k,rfl⟩ : ∃ m,k = m + 1:=⟨k - 1,by omega⟩
  simp only [grid_Check.l0]
  rw [if_neg (by omega)]
  rfl
 | succ d ih =>
  intro i k hi hk
  obtain ⟨k,rfl⟩ : ∃ m,k = m + 1:=⟨k - 1,by omega⟩
  have hih:=ih (i + 1) k (by omega) (by omega)
  have h0 : (0 : Int) ≤ (i : Int):=Int.natCast_nonneg _
  have h1 : (i : Int) < (bl.length : Int):=Int.ofNat_lt.2 (by omega)
  have h2 : (i : Int) < H * W:=by rw [← hl.1];exact h1
  have h3 : (i : Int) < (ri.length : Int):=by rw [hl.2.1];exact h2
  have h4 : (i : Int) < (be.length : Int):=by rw [hl.2.2];exact h2
  obtain ⟨f1,f2,f3,f4,f5,f6⟩:=cell_facts (H:=H) (W:=W) (i:=(i : Int)) hW.1 h0 h2
  have hW0 : ¬ (W = 0):=fun e=>by rw [e] at hW;exact absurd hW.1 (by decide)
  have t1 : Int.tmod (i : Int) W = (i : Int) % W:=Int.tmod_eq_emod_of_nonneg h0
  have t2 : Int.tdiv (i : Int) W = (i : Int) / W:=Int.tdiv_eq_ediv_of_nonneg h0
  have hn2:=Int.lt_of_lt_of_le h2 hn.2
  rw [← hl.1] at f5 f6
  obtain ⟨e1,e5,g1⟩:=small_sums h0 hn2 hW.1 hW.2
  obtain ⟨e2,e3,e4⟩:=small_less hW.1 hW.2 hH.1 hH.2 f1 f2
  have g0 : (0 : Int) ≤ ((i + 1 : Nat) : Int):=Int.natCast_nonneg _
  have hg : gbads H W bl ri be (d + 1) i = (gbad H W bl ri be i || gbads H W bl ri be d (i + 1)):=rfl
  rw [hg]
  unfold gbad
  simp only [grid_Check.l0]
  rw [t1,t2,e1,e2,e3,e4,e5,show ((i : Int) + 1) = ((i + 1 : Nat) : Int) from rfl,hih]
  delta gat rdOf
  clear hih ih e1 e2 e3 e4 e5 t1 t2
  generalize gbads H W bl ri be d (i + 1) = B
  generalize bl.getD (Int.toNat (i : Int)) false = b0
  generalize bl.getD (Int.toNat ((i + 1 : Nat) : Int)) false = b1
  generalize bl.getD (Int.toNat ((i : Int) + W)) false = b2
  generalize ri.getD (Int.toNat (i : Int)) false = b3
  generalize be.getD (Int.toNat (i : Int)) false = b4
  rw [if_pos h1,if_pos h0,if_pos h1,if_neg hW0,if_pos h3,if_pos h4]
  have h4n : i < be.length:=Int.ofNat_lt.1 h4
  by_cases hm1 : (i : Int) % W = W - 1
  ·by_cases hq1 : (i : Int) / W = H - 1
   ·cases b0 <;> cases b3 <;> cases b4 <;> simp [hm1,hq1,h4n]
   ·have f7:=f6 hq1
    rw [if_pos g1,if_pos f7]
    cases b0 <;> cases b2 <;> cases b3 <;> cases b4 <;> simp [hm1,hq1,h4n]
  ·have f8 : ((i + 1 : Nat) : Int) < (bl.length : Int):=f5 hm1
   rw [if_pos g0,if_pos f8]
   by_cases hq1 : (i : Int) / W = H - 1
   ·cases b0 <;> cases b1 <;> cases b3 <;> cases b4 <;> simp [hm1,hq1,h4n]
   ·have f7:=f6 hq1
    rw [if_pos g1,if_pos f7]
    cases b0 <;> cases b1 <;> cases b2 <;> cases b3 <;> cases b4 <;> simp [hm1,hq1,h4n]
theorem grid_side_eq (n : Int) : grid_side.f n = some (decide (1 ≤ n ∧ n ≤ 16)):=by
 unfold grid_side.f
 by_cases h : 1 ≤ n
 ·rw [if_pos h];simp [h]
 ·rw [if_neg h];simp [h]
set_option maxHeartbeats 1000000 in
theorem grid_Check_eq (H W : Int) (bl ri be : List Bool) (k : Nat) (hk : bl.length + 3 ≤ k) : grid_Check.f k H W bl ri be = some (gcheck H W bl ri be):=by
 obtain ⟨k,rfl⟩ : ∃ m,k = m + 2:=⟨k - 2,by omega⟩
 unfold grid_Check.f gcheck
 rw [grid_side_eq,grid_side_eq]
 simp only [Option.bind_some]
 by_cases hH : 1 ≤ H ∧ H ≤ 16
 ·by_cases hW : 1 ≤ W ∧ W ≤ 16
  ·have hn:=mul_small hH hW
   have hs : gsides H W = true:=by simp [gsides,hH,hW]
   have hw : wrap64 (H * W) = H * W:=w64 (by omega) (by omega)
   rw [hs,decide_eq_true hH,decide_eq_true hW]
   simp only [if_true,Bool.not_true,Bool.true_eq_false,if_false]
   simp only [grid_Check.j0,Bool.false_eq_true,if_false]
   rw [hw]
   by_cases hz : (bl.length : Int) = H * W ∧ (ri.length : Int) = H * W ∧ (be.length : Int) = H * W
   ·have hz1 : gsizes H W bl ri be = true:=by simp [gsizes,hz]
    rw [hz1,if_pos hz.1,if_pos hz.2.1]
    simp only [Bool.true_eq_false,if_false]
    have hb : ((be.length : Int) != H * W) = false:=by simp [hz.2.2]
    rw [hb]
    simp only [grid_Check.j1,Bool.false_eq_true,if_false]
    have:=grid_Check_l0 H W bl ri be hH hW hz bl.length 0 k (by omega) (by omega)
    exact this
   ·have hz1 : gsizes H W bl ri be = false:=by simp only [gsizes];exact decide_eq_false hz
    rw [hz1,if_pos rfl]
    by_cases z1 : (bl.length : Int) = H * W
    ·rw [if_pos z1]
     by_cases z2 : (ri.length : Int) = H * W
     ·rw [if_pos z2]
      have hb : ((be.length : Int) != H * W) = true:=by simp only [bne_iff_ne];exact fun z3=>hz ⟨z1,z2,z3⟩
      rw [hb]
      simp [grid_Check.j1]
     ·rw [if_neg z2];simp [grid_Check.j1]
    ·rw [if_neg z1];simp [grid_Check.j1]
  ·have hs : gsides H W = false:=by simp only [gsides,decide_eq_false hW,Bool.and_false]
   rw [hs,decide_eq_true hH,decide_eq_false hW]
   simp [grid_Check.j0]
 ·have hs : gsides H W = false:=by simp only [gsides,decide_eq_false hH,Bool.false_and]
  rw [hs,decide_eq_false hH]
  simp [grid_Check.j0]
theorem gcheck_ok {H W : Int} {bl ri be : List Bool} (h : gcheck H W bl ri be = 0) : (1 ≤ H ∧ H ≤ 16) ∧ (1 ≤ W ∧ W ≤ 16) ∧ ((bl.length : Int) = H * W ∧ (ri.length : Int) = H * W ∧ (be.length : Int) = H * W):=by
 unfold gcheck at h
 split at h
 ·cases h
 ·split at h
  ·cases h
  ·rename_i h1 h2
   simp only [gsides,Bool.not_eq_false,Bool.and_eq_true,decide_eq_true_eq] at h1
   simp only [gsizes,Bool.not_eq_false,decide_eq_true_eq] at h2
   exact ⟨h1.1,h1.2,h2⟩
theorem grid_open_eq (H W : Int) (bl ri be : List Bool) (i : Int) : grid_open.f H W bl ri be i = some (gopen bl i):=by
 unfold grid_open.f gopen
 by_cases h0 : 0 ≤ i
 ·rw [if_pos h0]
  by_cases h1 : i < (bl.length : Int)
  ·rw [if_pos h1,if_pos h0];simp [h0,h1];rfl
  ·rw [if_neg h1];simp [h1]
 ·rw [if_neg h0];simp [h0]
theorem grid_Open_eq (H W : Int) (bl ri be : List Bool) (i : Int) (k : Nat) (hk : bl.length + 3 ≤ k) : grid_Open.f k H W bl ri be i = some (decide (gcheck H W bl ri be = 0) && gopen bl i):=by
 unfold grid_Open.f
 rw [grid_Check_eq _ _ _ _ _ _ hk,grid_open_eq]
 simp only [Option.bind_some]
 by_cases h : gcheck H W bl ri be = 0
 ·rw [if_pos h];simp [h]
 ·rw [if_neg h];simp [h]
theorem grid_Step_eq (H W : Int) (bl ri be : List Bool) (i way : Int) (k : Nat) (hk : bl.length + 3 ≤ k) (hc : gcheck H W bl ri be = 0) (hw : 0 ≤ way ∧ way ≤ 3) : grid_Step.f k H W bl ri be i way = some ((gStep H W bl ri be i way).1,(gStep H W bl ri be i way).2):=by
 obtain ⟨hH,hW,hl⟩:=gcheck_ok hc
 unfold grid_Step.f gStep
 rw [if_neg (by omega),if_neg (by omega),grid_Open_eq _ _ _ _ _ _ _ hk]
 simp only [Option.bind_some,decide_eq_true hc,Bool.true_and]
 cases ho : gopen bl i with
 | false=>simp
 | true =>
  have hi : 0 ≤ i ∧ i < H * W:=by
   simp only [gopen,Bool.and_eq_true,decide_eq_true_eq] at ho
   rw [← hl.1]
   exact ho.1
  simp only [if_true]
  unfold grid_step.f
  rw [if_pos ⟨hH,hW,hl,hi,hw⟩]
  rfl
structure GridIs (H W : Int) (A2 : Option Addr) (c2 : Nat) (bl : List Bool) (A3 : Option Addr) (c3 : Nat) (ri : List Bool) (A4 : Option Addr) (c4 : Nat) (be : List Bool) (w : World) : Prop where
 h2 : Kd.C Kd.bool w A2 bl.length bl
 c2 : bl.length ≤ c2
 h3 : Kd.C Kd.bool w A3 ri.length ri
 c3 : ri.length ≤ c3
 h4 : Kd.C Kd.bool w A4 be.length be
 c4 : be.length ≤ c4
 ok : gcheck H W bl ri be = 0
theorem GridIs.below {H W : Int} {A2 : Option Addr} {c2 : Nat} {bl : List Bool} {A3 : Option Addr} {c3 : Nat} {ri : List Bool} {A4 : Option Addr} {c4 : Nat} {be : List Bool} {w w' : World} (h : GridIs H W A2 c2 bl A3 c3 ri A4 c4 be w) (hb : Below w.heap.size w w') : GridIs H W A2 c2 bl A3 c3 ri A4 c4 be w' :=
 ⟨Kd.C_below h.h2 hb,h.c2,Kd.C_below h.h3 hb,h.c3,Kd.C_below h.h4 hb,h.c4,h.ok⟩
def GridBox (b : Nat) (H W : Int) (A2 : Option Addr) (c2 : Nat) (bl : List Bool) (A3 : Option Addr) (c3 : Nat) (ri : List Bool) (A4 : Option Addr) (c4 : Nat) (be : List Bool) (w : World) : Prop :=
 w.cell? ⟨b,0,none⟩ = some (.int .i64 H) ∧ w.cell? ⟨b,1,none⟩ = some (.int .i64 W) ∧ w.cell? ⟨b,2,none⟩ = some (.slice A2 bl.length c2) ∧ w.cell? ⟨b,3,none⟩ = some (.slice A3 ri.length c3) ∧ w.cell? ⟨b,4,none⟩ = some (.slice A4 be.length c4)
theorem GridBox.below {b : Nat} {H W : Int} {A2 : Option Addr} {c2 : Nat} {bl : List Bool} {A3 : Option Addr} {c3 : Nat} {ri : List Bool} {A4 : Option Addr} {c4 : Nat} {be : List Bool} {w w' : World} (h : GridBox b H W A2 c2 bl A3 c3 ri A4 c4 be w) (hb : Below w.heap.size w w') : GridBox b H W A2 c2 bl A3 c3 ri A4 c4 be w' :=
 ⟨cell_below1 hb h.1,cell_below1 hb h.2.1,cell_below1 hb h.2.2.1,cell_below1 hb h.2.2.2.1,cell_below1 hb h.2.2.2.2⟩
theorem int_info : (Tryz.prog.info? 3).map (fun i=>(i.zero,i.size,i.bytes)) = some (some (.int .i64 0),1,8):=by kernel_rfl
theorem gopen_lt {bl : List Bool} {i : Int} (h : gopen bl i = true) : 0 ≤ i ∧ i < bl.length:=by
 simp only [gopen,Bool.and_eq_true,decide_eq_true_eq] at h
 exact h.1
theorem gStep_yes {H W : Int} {bl ri be : List Bool} {i way : Int} (hc : gcheck H W bl ri be = 0) (hw : way = 0 ∨ way = 1) (h : (gStep H W bl ri be i way).2 = true) : 0 ≤ i ∧ i < (gStep H W bl ri be i way).1 ∧ (gStep H W bl ri be i way).1 < bl.length:=by
 obtain ⟨hH,hW,hl⟩:=gcheck_ok hc
 unfold gStep at h ⊢
 split at h
 ·rename_i ho
  rw [if_pos ho]
  have h1:=gopen_lt ho
  exact ⟨h1.1,gstep_up hW.1 h1.1 hw h,(gstep_to hW.1 hl.1 h).2.1⟩
 ·cases h
set_option maxHeartbeats 8000000 in
set_option maxRecDepth 1000000 in
theorem gather.calls (bx : Nat) (H W : Int) (A2 : Option Addr) (c2 : Nat) (bl : List Bool) (A3 : Option Addr) (c3 : Nat) (ri : List Bool) (A4 : Option Addr) (c4 : Nat) (be : List Bool) (i way : Int) (w : World)
  (hg : GridIs H W A2 c2 bl A3 c3 ri A4 c4 be w) (hbx : GridBox bx H W A2 c2 bl A3 c3 ri A4 c4 be w) (hw : way = 0 ∨ way = 1) (hi : 0 ≤ i ∧ i < bl.length) :
  Calls Tryz.prog 41 #[.int .i64 i,.int .i64 way,.pointer (some ⟨bx,0,none⟩)] w fun e w'=>∃ v,e = .returned v ∧ Kd.R (Kd.int .i64) 3 w' w.heap.size (fun _=>True) v (grun H W bl ri be way bl.length i) ∧ Below w.heap.size w w':=by
 have hsm:=(mul_small (gcheck_ok hg.ok).1 (gcheck_ok hg.ok).2.1)
 have hbl : bl.length ≤ 256:=by have:=(gcheck_ok hg.ok).2.2.1;omega
 clear hsm
 have hw03 : 0 ≤ way ∧ way ≤ 3:=by omega
 go_enter Tryz.func41,Tryz.ntmps41
 go_wp2_with (((with_reducible refine gate_dst (N:=10) rfl ?_);refine Kd.R_lit (Kd.int .i64) _ 3 ?hg (N:=10) ?hd (xs:=([i] : List Int)) (inner:=[.int .i64 i]) (ok:=fun _=>True) (okp:=fun _=>True) ?hr ?hp (fun _ hk=>hk) trivial (Below.refl _ _) (Nat.le_refl _) (by simp) ?_;(case hd=>rfl);(case hg=>rfl);(case hr=>first | (go_simp;done) | (go_simp;rfl));(case hp=>exact (Reps.one (show Kd.M (Kd.int .i64) _ _ _ i [.int .i64 i] from rfl) (Reps.none _ _)));intro v1 w1 ho1 hb1 hg_ hnew_;clear hg_ hnew_))
 go_loopw [0,6] (fun t v wr=>∃ (f : Nat) (j : Int) (acc : List Int),t = .int .i64 j ∧ (acc ++ grun H W bl ri be way f j = grun H W bl ri be way bl.length i) ∧ (0 ≤ j ∧ j < bl.length ∧ (bl.length : Int) - j ≤ f ∧ acc.length ≤ j.toNat) ∧ Kd.R (Kd.int .i64) 3 wr w.heap.size (fun _=>True) v (acc ++ [j]) ∧ Below w.heap.size w wr) (fun t _ _=>bl.length - (intOf t).toNat)
 case atStart=>exact ⟨bl.length,i,[],rfl,rfl,⟨hi.1,hi.2,by omega,by simp⟩,ho1,hb1⟩
 case round =>
  obtain ⟨f,j,acc,rfl,he,hj,hR,hB⟩:=hrel
  have hgr:=hg.below hB
  have hbr:=hbx.below hB
  have hst:=grid_Step_eq H W bl ri be j way (bl.length + 3) (Nat.le_refl _) hg.ok hw03
  obtain ⟨b0,b1,b2,b3,b4⟩:=hbr
  obtain ⟨f,rfl⟩ : ∃ f',f = f' + 1:=⟨f - 1,by omega⟩
  cases hok : (gStep H W bl ri be j way).2 with
  | false =>
   have hrun : grun H W bl ri be way (f + 1) j = [j]:=by simp only [grun,hok];rfl
   rw [hok] at hst
   rw [hrun] at he
   replace he:=Lib.hid he
   replace hst:=Lib.hid hst
   clear hok hrun
   replace hR:=Lib.hid hR
   go_wp2_with (go_at_call 42;refine (grid_Step.calls _ _ _ _ _ _ _ _ _ _ _ _ _ _ _ _ _ hgr.h2 hgr.c2 hgr.h3 hgr.c3 hgr.h4 hgr.c4 hst.out).mono ?_;rintro e w3 ⟨rfl,hb3⟩)
   go_ret
   refine ⟨_,rfl,?_,hB.trans (hb3.mono hB.size)⟩
   rw [← he.out]
   exact Kd.R_below hR.out hb3
  | true =>
   have hyes:=gStep_yes hg.ok hw hok
   have hrun : grun H W bl ri be way (f + 1) j = j :: grun H W bl ri be way f (gStep H W bl ri be j way).1:=by simp only [grun,hok];rfl
   obtain ⟨j2,hj2⟩ : ∃ j2,(gStep H W bl ri be j way).1 = j2:=⟨_,rfl⟩
   rw [hok,hj2] at hst
   rw [hrun,hj2] at he
   rw [hj2] at hyes
   replace he:=Lib.hid he
   replace hst:=Lib.hid hst
   have hlen : (acc ++ [j]).length + 1 < 17592186044416:=by simp;omega
   replace hlen:=Lib.hid hlen
   clear hok hrun hj2
   replace hR:=Lib.hid hR
   go_wp2_with (first | (go_at_call 42;refine (grid_Step.calls _ _ _ _ _ _ _ _ _ _ _ _ _ _ _ _ _ hgr.h2 hgr.c2 hgr.h3 hgr.c3 hgr.h4 hgr.c4 hst.out).mono ?_;rintro e w3 ⟨rfl,hb3⟩;have hR3:=Lib.hid (Kd.R_below hR.out hb3);have hB3:=hB.trans (hb3.mono hB.size)) | ((with_reducible refine gate_builtin (b:=.append) (xs:=#[.tmp 21,.tmp 23]) rfl ?_);go_must (at_builtin;refine Kd.R_append (Kd.int .i64) (w0:=w) w.heap.size rfl (.tmp 21) (.tmp 23) 46 3 (.int .i64 0) 8 rfl Tryz.underlying46 int_info rfl (by decide) (by omega) u6 (acc ++ [j]) j2 [.int .i64 j2] (fun _=>True) (fun _=>False) rfl rfl ?aP (fun _ hk=>hk.elim) ?aF ?aO ?aB ?aS ?aL ?_;(case aP=>exact rfl);(case aB=>exact hB3);(case aF=>exact (fun _ _=>trivial));(case aO=>exact hR3.out);(case aS=>exact hB3.size);(case aL=>have:=hlen.out;omega);intro v4 w4 ho hb hg4 hat)))
   go_roundw
   case rel=>exact ⟨f,j2,acc ++ [j],rfl,by have:=he.out;simpa using this,⟨by omega,by omega,by omega,by simp;omega⟩,ho,hb⟩
   case measure=>simp [intOf];omega
end Go.Proofs.YtpfbcepgmigeiaaGreatDoor.Q
end
section
namespace Go.Proofs.YtpfbcepgmigeiaaGreatDoor.Q
open Go.RowKit Go.Proofs.YtpfbcepgmigeiaaGreatDoorW.PrintWords Go.Proofs.YtpfbcepgmigeiaaGreatDoorW.PrintLast Go.Proofs.YtpfbcepgmigeiaaGreatDoorW.PrintMore
attribute [local go_sem] max2_int min2_int max_two min_two max_three min_three max_four min_four
set_option linter.unusedVariables false
set_option linter.unusedSimpArgs false
open Go.Proofs.YtpfbcepgmigeiaaGreatDoorS
def slotOf (x : Int × Bool × List Int) : S48:=⟨x.1,x.2.1,x.2.2⟩
def slotsOf (H W : Int) (bl ri be : List Bool) : List S48:=if gcheck H W bl ri be = 0 then (gslotsAll H W bl ri be).map slotOf else []
def slots_List.f (H W : Int) (bl ri be : List Bool) : Option (List S48):=some (slotsOf H W bl ri be)
theorem slot_info : (Tryz.prog.info? 48).map (fun i=>(i.zero,i.size,i.bytes)) = some (some (.agg #[(.int .i64 0),(.bool false),(.slice none 0 0)]),3,40):=by kernel_rfl
theorem meas_step {i n : Nat} {j : Int} (h : i < n) (hj : (i : Int) + 1 = j) : n - j.toNat < n - ((i : Int)).toNat:=by omega
theorem run_apart {β : Type} {d : Kd β} {e base : Nat} {w w1 : World} {v v2 : Value} {xs : List β} {ys : List Int} (hS : Kd.S d e w base (fun _=>True) v xs) (hR : Kd.R (Kd.int .i64) 3 w1 w.heap.size (fun _=>True) v2 ys) (hb : Below w.heap.size w w1) : Kd.S d e w1 base (fun k=>True ∧ ¬ some k = v2.ownBlock) v xs :=
 Kd.S_mono (Kd.S_below (Kd.S_bound hS) hb) (fun k hk=>⟨trivial,fun h=>by have:=Kd.R_base hR k h.symm;have:=hk.2.2.1;omega⟩)
theorem new_blk (w : World) (o : Obj) : (w.alloc o).heap[w.heap.size]? = some o:=by show (w.heap.push o)[w.heap.size]? = some o;simp
theorem GridBox.of {b : Nat} {H W : Int} {A2 : Option Addr} {c2 : Nat} {bl : List Bool} {A3 : Option Addr} {c3 : Nat} {ri : List Bool} {A4 : Option Addr} {c4 : Nat} {be : List Bool} {w : World} {t : Nat}
  (h : w.heap[b]? = some (.cells #[.int .i64 H,.int .i64 W,.slice A2 bl.length c2,.slice A3 ri.length c3,.slice A4 be.length c4] t (0,0))) : GridBox b H W A2 c2 bl A3 c3 ri A4 c4 be w :=
 ⟨(blk_cell h 0).trans rfl,(blk_cell h 1).trans rfl,(blk_cell h 2).trans rfl,(blk_cell h 3).trans rfl,(blk_cell h 4).trans rfl⟩
set_option maxHeartbeats 8000000 in
set_option maxRecDepth 1000000 in
theorem slots_List.calls (H W : Int) (A2 : Option Addr) (c2 : Nat) (bl : List Bool) (A3 : Option Addr) (c3 : Nat) (ri : List Bool) (A4 : Option Addr) (c4 : Nat) (be : List Bool) (r : List S48) (w : World)
  (h2 : Kd.C Kd.bool w A2 bl.length bl) (hc2 : bl.length ≤ c2) (h3 : Kd.C Kd.bool w A3 ri.length ri) (hc3 : ri.length ≤ c3) (h4 : Kd.C Kd.bool w A4 be.length be) (hc4 : be.length ≤ c4) (h : slots_List.f H W bl ri be = some r) :
  Calls Tryz.prog 14 #[.agg #[.int .i64 H,.int .i64 W,.slice A2 bl.length c2,.slice A3 ri.length c3,.slice A4 be.length c4]] w fun e w'=>∃ v0_ : Value,e = .returned (v0_) ∧ Kd.S k48 48 w' w.heap.size (fun _=>True) v0_ r ∧ Below w.heap.size w w':=by
 have hr : r = slotsOf H W bl ri be:=(Option.some.inj h).symm
 clear h
 have hck:=grid_Check_eq H W bl ri be (bl.length + 3) (Nat.le_refl _)
 by_cases hok : gcheck H W bl ri be = 0
 ·have hrr : r = (gslots H W bl ri be bl.length 0 0).map slotOf:=by rw [hr];unfold slotsOf;rw [if_pos hok];rfl
  have hg : GridIs H W A2 c2 bl A3 c3 ri A4 c4 be w:=⟨h2,hc2,h3,hc3,h4,hc4,hok⟩
  have hn : bl.length ≤ 256:=by have:=(mul_small (gcheck_ok hok).1 (gcheck_ok hok).2.1).2;have:=(gcheck_ok hok).2.2.1;omega
  rw [hok] at hck
  replace hn:=Lib.hid hn
  replace hok:=Lib.hid hok
  clear hr
  replace hrr:=Lib.hid hrr
  replace hck:=Lib.hid hck
  go_enter Tryz.func14,Tryz.ntmps14
  go_wp2_with (go_at_call 37;go_loud (refine (grid_Check.calls _ _ _ _ _ _ _ _ _ _ _ _ _ _ (Kd.C_below h2 (below_alloc (Below.refl _ _) _)) hc2 (Kd.C_below h3 (below_alloc (Below.refl _ _) _)) hc3 (Kd.C_below h4 (below_alloc (Below.refl _ _) _)) hc4 hck.out).mono ?_;rintro e w3 ⟨rfl,hb3⟩;have hBK0 : w3.heap[w.heap.size]? = some (.cells #[.int .i64 H,.int .i64 W,.slice A2 bl.length c2,.slice A3 ri.length c3,.slice A4 be.length c4] 24 (0,0)):=(hb3.block _ (by show _ < (w.heap.push _).size;simp)).trans (new_blk _ _);have hB0 : Below w.heap.size w w3:=(below_alloc (Below.refl _ _) _).trans (hb3.mono (below_alloc (Below.refl _ _) _).size);have hz0:=(GridBox.of hBK0).2.2.1))
  clear hz0 hb3
  replace hBK0:=Lib.hid hBK0
  replace hB0:=Lib.hid hB0
  go_loopw [3,5,20] (fun v3 v5 v20 wr=>∃ (i : Nat) (xs : List S48) (num : Int),v20 = .int .i64 (i : Int) ∧ v5 = .int .i64 num ∧ Hid (i ≤ bl.length) ∧ Hid (0 ≤ num ∧ num ≤ i ∧ xs.length ≤ 2 * i) ∧ Hid (r = xs ++ (gslots H W bl ri be (bl.length - i) i num).map slotOf) ∧ Hid (Kd.S k48 48 wr w.heap.size (fun _=>True) v3 xs) ∧ Hid (wr.heap[w.heap.size]? = some (.cells #[.int .i64 H,.int .i64 W,.slice A2 bl.length c2,.slice A3 ri.length c3,.slice A4 be.length c4] 24 (0,0))) ∧ Hid (Below w.heap.size w wr)) (fun _ _ v20 _=>bl.length - (intOf v20).toNat)
  case atStart=>exact ⟨0,[],0,rfl,rfl,Lib.hid (Nat.zero_le _),Lib.hid ⟨by omega,by omega,by simp⟩,Lib.hid (by simpa using hrr.out),Lib.hid (Kd.S_nil _ _ _ _ _),hBK0,hB0⟩
  case round =>
   clear hBK0 hB0 hrr
   obtain ⟨i,xs,num,rfl,rfl,hi,hnx,he,hS,hBK,hB⟩:=hrel
   by_cases hlt : i < bl.length
   ·have tlt : decide ((i : Int) < (bl.length : Int)) = true:=decide_eq_true (by omega)
    have tltn : decide (i < bl.length) = true:=decide_eq_true hlt
    obtain ⟨d,hd⟩ : ∃ d,bl.length - i = d + 1:=⟨bl.length - i - 1,by omega⟩
    obtain ⟨ysE,hysE⟩ : ∃ l,(gways H W bl ri be i 2 0 false num) = l:=⟨_,rfl⟩
    obtain ⟨nE,hnE⟩ : ∃ l,(gwaysN H W bl ri be i 2 0 false num) = l:=⟨_,rfl⟩
    have he2 : r = xs ++ (ysE.map slotOf ++ (gslots H W bl ri be d ((i + 1 : Nat)) nE).map slotOf):=by rw [he.out,hd,gslots_ways,hysE,hnE,List.map_append]
    replace he2:=Lib.hid he2
    replace hd:=Lib.hid hd
    replace hysE:=Lib.hid hysE
    replace hnE:=Lib.hid hnE
    clear he
    replace hlt:=Lib.hid hlt
    go_wp2
    go_step3
    go_wp2
    go_step3
    go_wp2
    go_hide hQ
    go_loopw [3,5,7,23] (fun v3 v5 v7 v23 wi=>∃ (d2 : Nat) (way : Int) (b : Bool) (n : Int) (ys : List (Int × Bool × List Int)),v23 = .int .i64 way ∧ v7 = .bool b ∧ v5 = .int .i64 n ∧ Hid ((d2 : Int) + way = 2 ∧ 0 ≤ way) ∧ Hid (0 ≤ n ∧ n ≤ i + 1 ∧ (b = false → n ≤ i) ∧ (xs ++ ys.map slotOf).length ≤ 2 * i + way.toNat) ∧ Hid (ys ++ gways H W bl ri be i d2 way b n = ysE) ∧ Hid (gwaysN H W bl ri be i d2 way b n = nE) ∧ Hid (Kd.S k48 48 wi w.heap.size (fun _=>True) v3 (xs ++ ys.map slotOf)) ∧ Hid (wi.heap[w.heap.size]? = some (.cells #[.int .i64 H,.int .i64 W,.slice A2 bl.length c2,.slice A3 ri.length c3,.slice A4 be.length c4] 24 (0,0))) ∧ Hid (Below w.heap.size w wi)) (fun _ _ _ v23 _=>2 - (intOf v23).toNat)
    case atStart=>exact ⟨2,0,false,num,[],rfl,rfl,rfl,Lib.hid ⟨by omega,by omega⟩,Lib.hid ⟨hnx.out.1,by have:=hnx.out;omega,fun _=>hnx.out.2.1,by have:=hnx.out;simp;omega⟩,Lib.hid (by simpa using hysE.out),hnE,Lib.hid (by simpa using hS.out),hBK,hB⟩
    case round =>
     clear hS hBK hB
     obtain ⟨d2,way,b,n,ys,rfl,rfl,rfl,hdw,hnb,hy,hnn,hS,hBK,hB⟩:=hrel
     by_cases hw2 : way < 2
     ·have tw : decide (way < 2) = true:=decide_eq_true hw2
      obtain ⟨d2,rfl⟩ : ∃ d',d2 = d' + 1:=⟨d2 - 1,by have:=hdw.out;omega⟩
      have hwc : way = 0 ∨ way = 1:=by have:=hdw.out;omega
      have hgr:=hg.below hB.out
      obtain ⟨b0,b1,b2,b3,b4⟩:=GridBox.of hBK.out
      have hs1:=grid_Step_eq H W bl ri be i (wrap64 (way + 2)) (bl.length + 3) (Nat.le_refl _) hg.ok (by rw [w64 (by omega) (by omega)];omega)
      have hs2:=grid_Step_eq H W bl ri be i way (bl.length + 3) (Nat.le_refl _) hg.ok (by omega)
      have hgb : gbegins H W bl ri be i way = (!(gStep H W bl ri be i (way + 2)).2 && (gStep H W bl ri be i way).2):=rfl
      have ew1 : wrap64 (way + 1) = way + 1:=w64 (by omega) (by omega)
      have ew2 : wrap64 (way + 2) = way + 2:=w64 (by omega) (by omega)
      rw [← ew2] at hgb
      clear ew2
      replace ew1:=Lib.hid ew1
      replace hwc:=Lib.hid hwc
      replace hw2:=Lib.hid hw2
      cases hb1 : (gStep H W bl ri be i (wrap64 (way + 2))).2 with
      | true =>
       rw [hb1] at hs1
       rw [hb1] at hgb
       simp only [Bool.not_true,Bool.false_and] at hgb
       replace hs1:=Lib.hid hs1
       replace hgb:=Lib.hid hgb
       clear hs2
       replace hb1:=Lib.hid hb1
       go_wp2_with (go_at_call 42;refine (grid_Step.calls _ _ _ _ _ _ _ _ _ _ _ _ _ _ _ _ _ hgr.h2 hgr.c2 hgr.h3 hgr.c3 hgr.h4 hgr.c4 hs1.out).mono ?_;rintro e w5 ⟨rfl,hb3⟩)
       go_roundw
       case measure=>simp only [intOf];rw [ew1.out];have:=hdw.out;have:=hw2.out;omega
       case rel=>exact ⟨d2,wrap64 (way + 1),b,n,ys,rfl,rfl,rfl,Lib.hid (by rw [ew1.out];have:=hdw.out;omega),Lib.hid (by rw [ew1.out];have a1:=hnb.out;have a2:=hdw.out;exact ⟨a1.1,a1.2.1,a1.2.2.1,by omega⟩),Lib.hid (by rw [ew1.out];have e1:=hy.out;simp only [gways,hgb.out] at e1;simpa using e1),Lib.hid (by rw [ew1.out];have e1:=hnn.out;simp only [gwaysN,hgb.out] at e1;simpa using e1),Lib.hid (Kd.S_below hS.out hb3),Lib.hid ((hb3.block _ (blk_lt hBK.out)).trans hBK.out),Lib.hid (hB.out.trans (hb3.mono hB.out.size))⟩
      | false =>
       rw [hb1] at hs1
       rw [hb1] at hgb
       simp only [Bool.not_false,Bool.true_and] at hgb
       replace hs1:=Lib.hid hs1
       replace hb1:=Lib.hid hb1
       cases hb2 : (gStep H W bl ri be i way).2 with
       | false =>
        rw [hb2] at hs2
        rw [hb2] at hgb
        replace hs2:=Lib.hid hs2
        replace hgb:=Lib.hid hgb
        replace hb2:=Lib.hid hb2
        go_wp2_with (first | (go_at_call 42;refine (grid_Step.calls _ _ _ _ _ _ _ _ _ _ _ _ _ _ _ _ _ (hgr5).h2 hgr.c2 (hgr5).h3 hgr.c3 (hgr5).h4 hgr.c4 hs2.out).mono ?_;rintro e w6 ⟨rfl,hb33⟩;have hb4:=hb3.trans (hb33.mono hb3.size)) | (go_at_call 42;refine (grid_Step.calls _ _ _ _ _ _ _ _ _ _ _ _ _ _ _ _ _ (hgr).h2 hgr.c2 (hgr).h3 hgr.c3 (hgr).h4 hgr.c4 hs1.out).mono ?_;rintro e w5 ⟨rfl,hb3⟩;have hgr5:=hgr.below hb3;have hBK5:=Lib.hid ((hb3.block _ (blk_lt hBK.out)).trans hBK.out);obtain ⟨b0,b1,b2,b3,b4⟩:=GridBox.of hBK5.out))
        go_roundw
        case measure=>simp only [intOf];rw [ew1.out];have:=hdw.out;have:=hw2.out;omega
        case rel=>exact ⟨d2,wrap64 (way + 1),b,n,ys,rfl,rfl,rfl,Lib.hid (by rw [ew1.out];have:=hdw.out;omega),Lib.hid (by rw [ew1.out];have a1:=hnb.out;have a2:=hdw.out;exact ⟨a1.1,a1.2.1,a1.2.2.1,by omega⟩),Lib.hid (by rw [ew1.out];have e1:=hy.out;simp only [gways,hgb.out] at e1;simpa using e1),Lib.hid (by rw [ew1.out];have e1:=hnn.out;simp only [gwaysN,hgb.out] at e1;simpa using e1),Lib.hid (Kd.S_below hS.out hb4),Lib.hid ((hb4.block _ (blk_lt hBK.out)).trans hBK.out),Lib.hid (hB.out.trans (hb4.mono hB.out.size))⟩
       | true =>
        rw [hb2] at hs2
        rw [hb2] at hgb
        replace hs2:=Lib.hid hs2
        replace hgb:=Lib.hid hgb
        replace hb2:=Lib.hid hb2
        have hib:=hlt.out
        cases b with
        | true =>
         go_wp2_with (first | (go_at_call 42;refine (grid_Step.calls _ _ _ _ _ _ _ _ _ _ _ _ _ _ _ _ _ (hgr5).h2 hgr.c2 (hgr5).h3 hgr.c3 (hgr5).h4 hgr.c4 hs2.out).mono ?_;rintro e w6 ⟨rfl,hb33⟩;have hb4:=hb3.trans (hb33.mono hb3.size);have hBK6:=Lib.hid ((hb33.block _ (blk_lt hBK5.out)).trans hBK5.out);have hgr6:=hgr5.below hb33;have hbx6:=GridBox.of hBK6.out) | (go_at_call 42;refine (grid_Step.calls _ _ _ _ _ _ _ _ _ _ _ _ _ _ _ _ _ (hgr).h2 hgr.c2 (hgr).h3 hgr.c3 (hgr).h4 hgr.c4 hs1.out).mono ?_;rintro e w5 ⟨rfl,hb3⟩;have hgr5:=hgr.below hb3;have hBK5:=Lib.hid ((hb3.block _ (blk_lt hBK.out)).trans hBK.out);obtain ⟨b0,b1,b2,b3,b4⟩:=GridBox.of hBK5.out) | (go_at_call 41;refine (gather.calls _ _ _ _ _ _ _ _ _ _ _ _ _ _ _ hgr6 hbx6 hwc.out (by omega)).mono ?_;rintro e w7 ⟨vRun,rfl,hRun,hb7⟩;have hS6:=Kd.S_below hS.out hb4;have hS7:=Lib.hid (run_apart hS6 hRun hb7);have hRb:=Kd.R_base hRun;have hSl:=Kd.S_lt hS6;have hB7:=(hB.out.trans (hb4.mono hB.out.size)).trans (hb7.mono ((hB.out.trans (hb4.mono hB.out.size)).size));have hRl:=Lib.hid (Kd.R_lower hRun (hB.out.trans (hb4.mono hB.out.size)).size);have hBK7:=Lib.hid ((hb7.block _ (blk_lt hBK6.out)).trans hBK6.out);obtain ⟨Ar,cr,rfl⟩:=Kd.R_slice hRun) | ((with_reducible refine gate_builtin (b:=.append) (xs:=#[.tmp 48,.tmp 57]) rfl ?_);go_must (at_builtin;refine Kd.S_append k48 (w0:=w) w.heap.size rfl (.tmp 48) (.tmp 57) 44 48 (.agg #[(.int .i64 0),(.bool false),(.slice none 0 0)]) 40 rfl Tryz.underlying44 slot_info rfl (by decide) (by omega) u3 (xs ++ ys.map slotOf) (slotOf (n,way == 1,grun H W bl ri be way bl.length i)) [.int .i64 (n),.bool (way == 1),.slice Ar (grun H W bl ri be way bl.length i).length cr] (fun _=>True) (fun k_=>some k_ = (Value.slice Ar (grun H W bl ri be way bl.length i).length cr).ownBlock) rfl rfl ?aP ?aK ?aF ?aO ?aB ?aS ?aL ?_;(case aP=>exact k48_mkM _ _ _ (slotOf (n,way == 1,grun H W bl ri be way bl.length i)) (Kd.R_tight rfl hRl.out));(case aK=>exact (fun k_ hk_=>⟨trivial,fun e_=>by have z1:=hRb k_ hk_.symm;have z2:=hSl k_ e_.symm;omega⟩));(case aB=>exact hB7);(case aF=>exact (fun _ _=>trivial));(case aO=>exact hS7.out);(case aS=>exact hB7.size);(case aL=>have z1:=hnb.out;have z2:=hdw.out;have z3:=hn.out;have z4:=z1.2.2.2;omega);intro v8 w8 ho hb8 hg8 hat)))
         go_roundw
         case measure=>simp only [intOf];rw [ew1.out];have:=hdw.out;have:=hw2.out;omega
         case rel=>exact ⟨d2,wrap64 (way + 1),true,n,ys ++ [(n,way == 1,grun H W bl ri be way bl.length i)],rfl,rfl,rfl,Lib.hid (by rw [ew1.out];have:=hdw.out;omega),Lib.hid (by rw [ew1.out];have a1:=hnb.out;have a2:=hdw.out;rw [List.map_append,← List.append_assoc,List.length_append];exact ⟨a1.1,a1.2.1,fun h=>Bool.noConfusion h,by simp only [List.map_cons,List.map_nil,List.length_cons,List.length_nil];omega⟩),Lib.hid (by rw [ew1.out];have e1:=hy.out;simp only [gways,hgb.out] at e1;simpa using e1),Lib.hid (by rw [ew1.out];have e1:=hnn.out;simp only [gwaysN,hgb.out] at e1;simpa using e1),Lib.hid (by rw [List.map_append,← List.append_assoc];exact ho),Lib.hid (blk_grown hBK7.out hg8 (Kd.S_ne hS7.out hBK7.out (by decide))),Lib.hid hb8⟩
        | false =>
         have en1 : wrap64 (n + 1) = n + 1:=w64 (by have:=hnb.out;omega) (by have:=hnb.out;have:=hn.out;omega)
         replace en1:=Lib.hid en1
         go_wp2_with (first | (go_at_call 42;refine (grid_Step.calls _ _ _ _ _ _ _ _ _ _ _ _ _ _ _ _ _ (hgr5).h2 hgr.c2 (hgr5).h3 hgr.c3 (hgr5).h4 hgr.c4 hs2.out).mono ?_;rintro e w6 ⟨rfl,hb33⟩;have hb4:=hb3.trans (hb33.mono hb3.size);have hBK6:=Lib.hid ((hb33.block _ (blk_lt hBK5.out)).trans hBK5.out);have hgr6:=hgr5.below hb33;have hbx6:=GridBox.of hBK6.out) | (go_at_call 42;refine (grid_Step.calls _ _ _ _ _ _ _ _ _ _ _ _ _ _ _ _ _ (hgr).h2 hgr.c2 (hgr).h3 hgr.c3 (hgr).h4 hgr.c4 hs1.out).mono ?_;rintro e w5 ⟨rfl,hb3⟩;have hgr5:=hgr.below hb3;have hBK5:=Lib.hid ((hb3.block _ (blk_lt hBK.out)).trans hBK.out);obtain ⟨b0,b1,b2,b3,b4⟩:=GridBox.of hBK5.out) | (go_at_call 41;refine (gather.calls _ _ _ _ _ _ _ _ _ _ _ _ _ _ _ hgr6 hbx6 hwc.out (by omega)).mono ?_;rintro e w7 ⟨vRun,rfl,hRun,hb7⟩;have hS6:=Kd.S_below hS.out hb4;have hS7:=Lib.hid (run_apart hS6 hRun hb7);have hRb:=Kd.R_base hRun;have hSl:=Kd.S_lt hS6;have hB7:=(hB.out.trans (hb4.mono hB.out.size)).trans (hb7.mono ((hB.out.trans (hb4.mono hB.out.size)).size));have hRl:=Lib.hid (Kd.R_lower hRun (hB.out.trans (hb4.mono hB.out.size)).size);have hBK7:=Lib.hid ((hb7.block _ (blk_lt hBK6.out)).trans hBK6.out);obtain ⟨Ar,cr,rfl⟩:=Kd.R_slice hRun) | ((with_reducible refine gate_builtin (b:=.append) (xs:=#[.tmp 48,.tmp 57]) rfl ?_);go_must (at_builtin;refine Kd.S_append k48 (w0:=w) w.heap.size rfl (.tmp 48) (.tmp 57) 44 48 (.agg #[(.int .i64 0),(.bool false),(.slice none 0 0)]) 40 rfl Tryz.underlying44 slot_info rfl (by decide) (by omega) u3 (xs ++ ys.map slotOf) (slotOf (wrap64 (n + 1),way == 1,grun H W bl ri be way bl.length i)) [.int .i64 (wrap64 (n + 1)),.bool (way == 1),.slice Ar (grun H W bl ri be way bl.length i).length cr] (fun _=>True) (fun k_=>some k_ = (Value.slice Ar (grun H W bl ri be way bl.length i).length cr).ownBlock) rfl rfl ?aP ?aK ?aF ?aO ?aB ?aS ?aL ?_;(case aP=>exact k48_mkM _ _ _ (slotOf (wrap64 (n + 1),way == 1,grun H W bl ri be way bl.length i)) (Kd.R_tight rfl hRl.out));(case aK=>exact (fun k_ hk_=>⟨trivial,fun e_=>by have z1:=hRb k_ hk_.symm;have z2:=hSl k_ e_.symm;omega⟩));(case aB=>exact hB7);(case aF=>exact (fun _ _=>trivial));(case aO=>exact hS7.out);(case aS=>exact hB7.size);(case aL=>have z1:=hnb.out;have z2:=hdw.out;have z3:=hn.out;have z4:=z1.2.2.2;omega);intro v8 w8 ho hb8 hg8 hat)))
         go_roundw
         case measure=>simp only [intOf];rw [ew1.out];have:=hdw.out;have:=hw2.out;omega
         case rel=>exact ⟨d2,wrap64 (way + 1),true,wrap64 (n + 1),ys ++ [(wrap64 (n + 1),way == 1,grun H W bl ri be way bl.length i)],rfl,rfl,rfl,Lib.hid (by rw [ew1.out];have:=hdw.out;omega),Lib.hid (by rw [ew1.out];have a1:=hnb.out;have a2:=hdw.out;rw [List.map_append,← List.append_assoc,List.length_append];have en:=en1.out;exact ⟨by omega,by have:=a1.2.2.1 trivial;omega,fun h=>Bool.noConfusion h,by simp only [List.map_cons,List.map_nil,List.length_cons,List.length_nil];omega⟩),Lib.hid (by rw [ew1.out];have e1:=hy.out;simp only [gways,hgb.out] at e1;rw [en1.out];simpa using e1),Lib.hid (by rw [ew1.out];have e1:=hnn.out;simp only [gwaysN,hgb.out] at e1;rw [en1.out];simpa using e1),Lib.hid (by rw [List.map_append,← List.append_assoc];exact ho),Lib.hid (blk_grown hBK7.out hg8 (Kd.S_ne hS7.out hBK7.out (by decide))),Lib.hid hb8⟩
     ·have tw : decide (way < 2) = false:=decide_eq_false hw2
      have hd0 : d2 = 0 ∧ way = 2:=by have:=hdw.out;omega
      obtain ⟨rfl,rfl⟩:=hd0
      have hy2:=hy.out
      have hn2:=hnn.out
      simp only [gways,gwaysN,List.append_nil] at hy2 hn2
      subst hy2
      subst hn2
      clear hy hnn hw2
      go_wp2
      subst hQ
      go_wp2
      rw [Exit.noGoto_normal]
      go_wp2
      obtain ⟨j2,hj2⟩ : ∃ j2,wrap64 ((i : Int) + 1) = j2:=⟨_,rfl⟩
      rw [hj2]
      rw [w64 (by have:=hn.out;have:=hlt.out;omega) (by have:=hn.out;have:=hlt.out;omega)] at hj2
      go_roundw
      case measure=>exact meas_step hlt.out hj2
      case rel =>
       refine ⟨i + 1,xs ++ ys.map slotOf,n,?_,rfl,?_,?_,?_,hS,hBK,hB⟩
       ·rw [← hj2];rfl
       ·exact Lib.hid hlt.out
       ·exact Lib.hid ⟨hnb.out.1,by have:=hnb.out.2.1;omega,by have:=hnb.out.2.2.2;have e2 : (2 : Int).toNat = 2:=rfl;omega⟩
       ·have e1:=hd.out
        exact Lib.hid (by rw [he2.out,List.append_assoc,show bl.length - (i + 1) = d by omega])
   ·have tlt : decide ((i : Int) < (bl.length : Int)) = false:=decide_eq_false (by omega)
    have tltn : decide (i < bl.length) = false:=decide_eq_false hlt
    have hib : i = bl.length:=by have:=hi.out;omega
    go_wp2
    subst hib
    go_ret
    refine ⟨_,rfl,?_,hB.out⟩
    have e1:=he.out
    rw [Nat.sub_self] at e1
    rw [e1]
    simpa [gslots] using hS.out
 ·have hrr : r = []:=by rw [hr];unfold slotsOf;rw [if_neg hok]
  subst hrr
  clear hr
  obtain ⟨er,her⟩ : ∃ e,gcheck H W bl ri be = e:=⟨_,rfl⟩
  rw [her] at hck hok
  have hne : (er != 0) = true:=bne_iff_ne.2 hok
  replace hck:=Lib.hid hck
  replace her:=Lib.hid her
  go_enter Tryz.func14,Tryz.ntmps14
  go_wp2_with (first | (go_at_call 37;refine (grid_Check.calls _ _ _ _ _ _ _ _ _ _ _ _ _ _ (Kd.C_below h2 (below_alloc (Below.refl _ _) _)) hc2 (Kd.C_below h3 (below_alloc (Below.refl _ _) _)) hc3 (Kd.C_below h4 (below_alloc (Below.refl _ _) _)) hc4 hck.out).mono ?_;rintro e w3 ⟨rfl,hb3⟩))
  go_ret
  exact ⟨_,rfl,Kd.S_nil _ _ _ _ _,(below_alloc (Below.refl _ _) _).trans (hb3.mono (below_alloc (Below.refl _ _) _).size)⟩
end Go.Proofs.YtpfbcepgmigeiaaGreatDoor.Q
end
