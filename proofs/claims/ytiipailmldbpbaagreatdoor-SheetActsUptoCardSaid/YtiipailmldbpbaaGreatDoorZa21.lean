/- PART 21 OF A PROOF: Lean functions, and that the program computes them; written by hand and by a program. Not trusted: Lean checks it. -/
import Derived.Test.YtiipailmldbpbaaGreatDoorZa3
import Derived.Test.YtiipailmldbpbaaGreatDoorZa17
import Derived.Test.YtiipailmldbpbaaGreatDoorZa20
set_option linter.unusedVariables false
set_option linter.unusedSimpArgs false
section
namespace Go.Proofs.YtiipailmldbpbaaGreatDoor.Q
open Go.RowKit Go.Proofs.YtiipailmldbpbaaGreatDoorW.PrintWords Go.Proofs.YtiipailmldbpbaaGreatDoorW.PrintLast Go.Proofs.YtiipailmldbpbaaGreatDoorW.PrintMore
attribute [local go_sem] max2_int min2_int max_two min_two max_three min_three max_four min_four
set_option linter.unusedVariables false
set_option linter.unusedSimpArgs false
open Go.Proofs.YtiipailmldbpbaaGreatDoorS
def rebuslaw23_two.T1 : Bool × List (List Nat × List Nat) := (true, [([], []), ([], []), ([], []), ([0, 1, 2], [0, 1, 2]), ([], []), ([], []), ([3, 4, 5], [3, 4, 5]), ([6, 0, 1, 2, 3, 4, 5, 6], [6])])
def rebuslaw23_two.B1 : List Nat := [0, 0, 0, 7, 0, 0, 63, 127]
theorem rebuslaw23_two.tab1 : rtab .any (opsOf Tryz.f11 1) = rebuslaw23_two.T1 := by kernel_rfl
theorem rebuslaw23_two.bits1 : waitsOk rebuslaw23_two.T1.2 rebuslaw23_two.B1 = true := by kernel_rfl
def twoRow : List Bool := List.replicate 2 false
def twoCells : List ByteArray := [⟨#[67]⟩, ⟨#[67, 72]⟩]
def twoClues : List ByteArray := [⟨#[]⟩]
set_option maxHeartbeats 8000000 in
set_option maxRecDepth 100000 in
theorem rebuslaw23_two.calls (w : World) :
  Calls Tryz.prog 11 #[] w fun e w' => ∃ v0 v1 v2 v3 v4 : Value, e = .returned (.agg #[.string ⟨#[]⟩, .int .i64 1, .int .i64 2, v0, v1, v2, v3, v4]) ∧ Kd.R Kd.bool 4 w' w.heap.size (fun _ => True) v0 twoRow ∧ Kd.R Kd.bool 4 w' w.heap.size (fun _ => True) v1 twoRow ∧ Kd.R Kd.bool 4 w' w.heap.size (fun _ => True) v2 twoRow ∧ Kd.R Kd.string 9 w' w.heap.size (fun _ => True) v3 twoCells ∧ Kd.R Kd.string 9 w' w.heap.size (fun _ => True) v4 twoClues ∧ Below w.heap.size w w' := by
 have hu27 := Tryz.underlying27
 have hu24 := Tryz.underlying24
 go_enter Tryz.func11, Tryz.ntmps11
 go_wp2
 have BK := blk_drew (blk_new w (.cells #[.string (⟨#[]⟩ : ByteArray), .int .i64 0, .int .i64 0, .slice none 0 0, .slice none 0 0, .slice none 0 0, .slice none 0 0, .slice none 0 0] 27 (0, 0)))
 have HB := below_drew (below_alloc (Below.refl w.heap.size w) (.cells #[.string (⟨#[]⟩ : ByteArray), .int .i64 0, .int .i64 0, .slice none 0 0, .slice none 0 0, .slice none 0 0, .slice none 0 0, .slice none 0 0] 27 (0, 0)))
 obtain ⟨g, hg⟩ : ∃ g, w.heap.size = g := ⟨_, rfl⟩
 refine start_ (n := 8) (S := fun w' => True) (ds := []) #[false, false, false, false, false, false, false, false] (by kernel_rfl) rfl rfl trivial (fun hHeld => ?_)
 refine with_tabW rebuslaw23_two.tab1 rebuslaw23_two.bits1 (fun HT_ HW_ => ?_)
 generalize (w.alloc (.cells #[.string (⟨#[]⟩ : ByteArray), .int .i64 0, .int .i64 0, .slice none 0 0, .slice none 0 0, .slice none 0 0, .slice none 0 0, .slice none 0 0] 27 (0, 0))).drew = w3 at BK HB hHeld ⊢
 rw [hg] at BK HB ⊢
 refine inv_at [0, 1, 2, 3, 4, 5, 6, 7] (fun a0_ b a w' => ∃ v0 v1 v2 v3 v4 m3 m6 : Value, a = putSel a0_ b [(0, 1, v0), (1, 2, v1), (2, 3, v2), (3, 4, m3), (4, 5, v3), (5, 6, v4), (6, 7, m6)] ∧ (b 7 = false → w'.heap[g]? = some (.cells #[.string (⟨#[]⟩ : ByteArray), .int .i64 0, .int .i64 0, .slice none 0 0, .slice none 0 0, .slice none 0 0, .slice none 0 0, .slice none 0 0] 27 (0, 0))) ∧ Below g w w' ∧ (b 0 = true → Kd.R Kd.bool 4 w' g (fun _ => True) v0 twoRow) ∧ (b 1 = true → Kd.R Kd.bool 4 w' g (fun _ => True) v1 twoRow) ∧ (b 2 = true → Kd.R Kd.bool 4 w' g (fun _ => True) v2 twoRow) ∧ (b 4 = true → Kd.R Kd.string 9 w' g (fun _ => True) v3 twoCells) ∧ (b 5 = true → Kd.R Kd.string 9 w' g (fun _ => True) v4 twoClues) ∧ (b 7 = true → w'.heap[g]? = some (.cells #[.string (⟨#[]⟩ : ByteArray), .int .i64 1, .int .i64 2, v0, v1, v2, v3, v4] 27 (0, 0))) ∧ (b 3 = true → m3 = .agg #[.int .i64 1, .int .i64 2, v0, v1, v2]) ∧ (b 6 = true → m6 = .agg #[.string (⟨#[]⟩ : ByteArray), .int .i64 1, .int .i64 2, v0, v1, v2, v3, v4])) HT_.out HW_.out (by kernel_rfl) (by kernel_rfl) ?_ ?_ ?_
 ·exact ⟨.bool false, .bool false, .bool false, .bool false, .bool false, .bool false, .bool false, by simp only [putSel, Bool.false_eq_true, if_false], fun _ => BK, HB, fun h_ => absurd h_ (by decide), fun h_ => absurd h_ (by decide), fun h_ => absurd h_ (by decide), fun h_ => absurd h_ (by decide), fun h_ => absurd h_ (by decide), fun h_ => absurd h_ (by decide), fun h_ => absurd h_ (by decide), fun h_ => absurd h_ (by decide)⟩
 ·clear BK HB
  refine steps_cons ?_ ?_
  ·rintro b a w' ⟨v0, v1, v2, v3, v4, m3, m6, ha, QB, QH, R0, R1, R2, R3, R4, QF, X3, X6⟩ hb_ hon hoff
   refine ⟨_, rfl, fun K hK => ?_⟩
   have hsz : g ≤ w'.heap.size := by rw [← hg]; exact QH.size
   have hB := QB (hoff 7 (by kernel_rfl))
   refine Kd.R_make_step Kd.bool _ 4 (by rfl) (N := 1) rfl 22 _ _ rfl 2 rfl rfl Tryz.underlying22 (.bool false) 1 bool_info rfl (by decide) (by decide) false (ok := fun _ => True) (okp := fun _ => True) rfl (fun _ hk => hk) trivial (by decide) (by decide) (Below.refl _ _) (Nat.le_refl _) ?_
   intro v0 w4 ho hb _ _
   refine hK.out _ _ ⟨v0, v1, v2, v3, v4, m3, m6, (by rw [ha]; exact putSel_upk 0 hb_ rfl rfl rfl), fun _ => blk_below hB hb, QH.trans (hb.mono hsz), fun _ => Kd.R_lower ho hsz, fun h_ => Kd.R_below (R1 h_) hb, fun h_ => Kd.R_below (R2 h_) hb, fun h_ => Kd.R_below (R3 h_) hb, fun h_ => Kd.R_below (R4 h_) hb, fun h_ => absurd ((hoff 7 (by kernel_rfl)).symm.trans h_) (by decide), fun h_ => absurd ((hoff 3 (by kernel_rfl)).symm.trans h_) (by decide), fun h_ => absurd ((hoff 6 (by kernel_rfl)).symm.trans h_) (by decide)⟩
  refine steps_cons ?_ ?_
  ·rintro b a w' ⟨v0, v1, v2, v3, v4, m3, m6, ha, QB, QH, R0, R1, R2, R3, R4, QF, X3, X6⟩ hb_ hon hoff
   refine ⟨_, rfl, fun K hK => ?_⟩
   have hsz : g ≤ w'.heap.size := by rw [← hg]; exact QH.size
   have hB := QB (hoff 7 (by kernel_rfl))
   refine Kd.R_make_step Kd.bool _ 4 (by rfl) (N := 2) rfl 22 _ _ rfl 2 rfl rfl Tryz.underlying22 (.bool false) 1 bool_info rfl (by decide) (by decide) false (ok := fun _ => True) (okp := fun _ => True) rfl (fun _ hk => hk) trivial (by decide) (by decide) (Below.refl _ _) (Nat.le_refl _) ?_
   intro v1 w4 ho hb _ _
   refine hK.out _ _ ⟨v0, v1, v2, v3, v4, m3, m6, (by rw [ha]; exact putSel_upk 1 hb_ rfl rfl rfl), fun _ => blk_below hB hb, QH.trans (hb.mono hsz), fun h_ => Kd.R_below (R0 h_) hb, fun _ => Kd.R_lower ho hsz, fun h_ => Kd.R_below (R2 h_) hb, fun h_ => Kd.R_below (R3 h_) hb, fun h_ => Kd.R_below (R4 h_) hb, fun h_ => absurd ((hoff 7 (by kernel_rfl)).symm.trans h_) (by decide), fun h_ => absurd ((hoff 3 (by kernel_rfl)).symm.trans h_) (by decide), fun h_ => absurd ((hoff 6 (by kernel_rfl)).symm.trans h_) (by decide)⟩
  refine steps_cons ?_ ?_
  ·rintro b a w' ⟨v0, v1, v2, v3, v4, m3, m6, ha, QB, QH, R0, R1, R2, R3, R4, QF, X3, X6⟩ hb_ hon hoff
   refine ⟨_, rfl, fun K hK => ?_⟩
   have hsz : g ≤ w'.heap.size := by rw [← hg]; exact QH.size
   have hB := QB (hoff 7 (by kernel_rfl))
   refine Kd.R_make_step Kd.bool _ 4 (by rfl) (N := 3) rfl 22 _ _ rfl 2 rfl rfl Tryz.underlying22 (.bool false) 1 bool_info rfl (by decide) (by decide) false (ok := fun _ => True) (okp := fun _ => True) rfl (fun _ hk => hk) trivial (by decide) (by decide) (Below.refl _ _) (Nat.le_refl _) ?_
   intro v2 w4 ho hb _ _
   refine hK.out _ _ ⟨v0, v1, v2, v3, v4, m3, m6, (by rw [ha]; exact putSel_upk 2 hb_ rfl rfl rfl), fun _ => blk_below hB hb, QH.trans (hb.mono hsz), fun h_ => Kd.R_below (R0 h_) hb, fun h_ => Kd.R_below (R1 h_) hb, fun _ => Kd.R_lower ho hsz, fun h_ => Kd.R_below (R3 h_) hb, fun h_ => Kd.R_below (R4 h_) hb, fun h_ => absurd ((hoff 7 (by kernel_rfl)).symm.trans h_) (by decide), fun h_ => absurd ((hoff 3 (by kernel_rfl)).symm.trans h_) (by decide), fun h_ => absurd ((hoff 6 (by kernel_rfl)).symm.trans h_) (by decide)⟩
  refine steps_cons ?_ ?_
  ·rintro b a w' ⟨v0, v1, v2, v3, v4, m3, m6, ha, QB, QH, R0, R1, R2, R3, R4, QF, X3, X6⟩ hb_ hon hoff
   refine ⟨_, rfl, fun K hK => ?_⟩
   have hsz : g ≤ w'.heap.size := by rw [← hg]; exact QH.size
   have e1 : a.tmps[1]? = some v0 := by rw [ha]; exact putSel_on (e := (0, 1, v0)) 0 rfl rfl (hon 0 (by kernel_rfl)) rfl
   have e2 : a.tmps[2]? = some v1 := by rw [ha]; exact putSel_on (e := (1, 2, v1)) 1 rfl rfl (hon 1 (by kernel_rfl)) rfl
   have e3 : a.tmps[3]? = some v2 := by rw [ha]; exact putSel_on (e := (2, 3, v2)) 2 rfl rfl (hon 2 (by kernel_rfl)) rfl
   replace ha := Aside0.mk ha
   obtain ⟨A0, n0, c0, rfl⟩ := R_slice3 (R0 (hon 0 (by kernel_rfl)))
   obtain ⟨A1, n1, c1, rfl⟩ := R_slice3 (R1 (hon 1 (by kernel_rfl)))
   obtain ⟨A2, n2, c2, rfl⟩ := R_slice3 (R2 (hon 2 (by kernel_rfl)))
   refine value_ (w1 := w') (v := .agg #[.int .i64 1, .int .i64 2, .slice A0 n0 c0, .slice A1 n1 c1, .slice A2 n2 c2]) (by rfl) rfl ?_ ?_
   ·go_simp
    (try simp only [i64_w])
    try rfl
   exact hK.out _ _ ⟨.slice A0 n0 c0, .slice A1 n1 c1, .slice A2 n2 c2, v3, v4, (.agg #[.int .i64 1, .int .i64 2, .slice A0 n0 c0, .slice A1 n1 c1, .slice A2 n2 c2]), m6, (by rw [ha.out]; exact putSel_upk 3 hb_ rfl rfl rfl), QB, QH, R0, R1, R2, R3, R4, fun h_ => absurd ((hoff 7 (by kernel_rfl)).symm.trans h_) (by decide), fun _ => rfl, fun h_ => absurd ((hoff 6 (by kernel_rfl)).symm.trans h_) (by decide)⟩
  refine steps_cons ?_ ?_
  ·rintro b a w' ⟨v0, v1, v2, v3, v4, m3, m6, ha, QB, QH, R0, R1, R2, R3, R4, QF, X3, X6⟩ hb_ hon hoff
   refine ⟨_, rfl, fun K hK => ?_⟩
   have hsz : g ≤ w'.heap.size := by rw [← hg]; exact QH.size
   have hB := QB (hoff 7 (by kernel_rfl))
   refine Kd.R_lit_step Kd.string _ 9 ?hg (N := 5) ?hd (xs := ([(⟨#[67]⟩ : ByteArray), (⟨#[67, 72]⟩ : ByteArray)] : List ByteArray)) (inner := [.string (⟨#[67]⟩ : ByteArray), .string (⟨#[67, 72]⟩ : ByteArray)]) (ok := fun _ => True) (okp := fun _ => True) ?hr ?hp (fun _ hk => hk) trivial (Below.refl _ _) (Nat.le_refl _) (by simp) ?_; (case hd => rfl); (case hg => rfl); (case hr => first | (go_simp; done) | (go_simp; rfl)); (case hp => exact (Reps.one (show Kd.M Kd.string _ _ _ (⟨#[67]⟩ : ByteArray) [.string (⟨#[67]⟩ : ByteArray)] from rfl) (Reps.one (show Kd.M Kd.string _ _ _ (⟨#[67, 72]⟩ : ByteArray) [.string (⟨#[67, 72]⟩ : ByteArray)] from rfl) (Reps.none _ _))))
   intro v3 w4 ho hb _ _
   refine hK.out _ _ ⟨v0, v1, v2, v3, v4, m3, m6, (by rw [ha]; exact putSel_upk 4 hb_ rfl rfl rfl), fun _ => blk_below hB hb, QH.trans (hb.mono hsz), fun h_ => Kd.R_below (R0 h_) hb, fun h_ => Kd.R_below (R1 h_) hb, fun h_ => Kd.R_below (R2 h_) hb, fun _ => Kd.R_lower ho hsz, fun h_ => Kd.R_below (R4 h_) hb, fun h_ => absurd ((hoff 7 (by kernel_rfl)).symm.trans h_) (by decide), fun h_ => X3 h_, fun h_ => absurd ((hoff 6 (by kernel_rfl)).symm.trans h_) (by decide)⟩
  refine steps_cons ?_ ?_
  ·rintro b a w' ⟨v0, v1, v2, v3, v4, m3, m6, ha, QB, QH, R0, R1, R2, R3, R4, QF, X3, X6⟩ hb_ hon hoff
   refine ⟨_, rfl, fun K hK => ?_⟩
   have hsz : g ≤ w'.heap.size := by rw [← hg]; exact QH.size
   have hB := QB (hoff 7 (by kernel_rfl))
   refine Kd.R_lit_step Kd.string _ 9 ?hg (N := 6) ?hd (xs := ([(⟨#[]⟩ : ByteArray)] : List ByteArray)) (inner := [.string (⟨#[]⟩ : ByteArray)]) (ok := fun _ => True) (okp := fun _ => True) ?hr ?hp (fun _ hk => hk) trivial (Below.refl _ _) (Nat.le_refl _) (by simp) ?_; (case hd => rfl); (case hg => rfl); (case hr => first | (go_simp; done) | (go_simp; rfl)); (case hp => exact (Reps.one (show Kd.M Kd.string _ _ _ (⟨#[]⟩ : ByteArray) [.string (⟨#[]⟩ : ByteArray)] from rfl) (Reps.none _ _)))
   intro v4 w4 ho hb _ _
   refine hK.out _ _ ⟨v0, v1, v2, v3, v4, m3, m6, (by rw [ha]; exact putSel_upk 5 hb_ rfl rfl rfl), fun _ => blk_below hB hb, QH.trans (hb.mono hsz), fun h_ => Kd.R_below (R0 h_) hb, fun h_ => Kd.R_below (R1 h_) hb, fun h_ => Kd.R_below (R2 h_) hb, fun h_ => Kd.R_below (R3 h_) hb, fun _ => Kd.R_lower ho hsz, fun h_ => absurd ((hoff 7 (by kernel_rfl)).symm.trans h_) (by decide), fun h_ => X3 h_, fun h_ => absurd ((hoff 6 (by kernel_rfl)).symm.trans h_) (by decide)⟩
  refine steps_cons ?_ ?_
  ·rintro b a w' ⟨v0, v1, v2, v3, v4, m3, m6, ha, QB, QH, R0, R1, R2, R3, R4, QF, X3, X6⟩ hb_ hon hoff
   refine ⟨_, rfl, fun K hK => ?_⟩
   have hsz : g ≤ w'.heap.size := by rw [← hg]; exact QH.size
   have e4 : a.tmps[4]? = some m3 := by rw [ha]; exact putSel_on (e := (3, 4, m3)) 3 rfl rfl (hon 3 (by kernel_rfl)) rfl
   rw [X3 (hon 3 (by kernel_rfl))] at e4
   have e5 : a.tmps[5]? = some v3 := by rw [ha]; exact putSel_on (e := (4, 5, v3)) 4 rfl rfl (hon 4 (by kernel_rfl)) rfl
   have e6 : a.tmps[6]? = some v4 := by rw [ha]; exact putSel_on (e := (5, 6, v4)) 5 rfl rfl (hon 5 (by kernel_rfl)) rfl
   replace ha := Aside0.mk ha
   obtain ⟨A0, n0, c0, rfl⟩ := R_slice3 (R0 (hon 0 (by kernel_rfl)))
   obtain ⟨A1, n1, c1, rfl⟩ := R_slice3 (R1 (hon 1 (by kernel_rfl)))
   obtain ⟨A2, n2, c2, rfl⟩ := R_slice3 (R2 (hon 2 (by kernel_rfl)))
   obtain ⟨A3, n3, c3, rfl⟩ := R_slice3 (R3 (hon 4 (by kernel_rfl)))
   obtain ⟨A4, n4, c4, rfl⟩ := R_slice3 (R4 (hon 5 (by kernel_rfl)))
   refine value_ (w1 := w') (v := .agg #[.string (⟨#[]⟩ : ByteArray), .int .i64 1, .int .i64 2, .slice A0 n0 c0, .slice A1 n1 c1, .slice A2 n2 c2, .slice A3 n3 c3, .slice A4 n4 c4]) (by rfl) rfl ?_ ?_
   ·go_simp
    (try simp only [i64_w])
    try rfl
   exact hK.out _ _ ⟨.slice A0 n0 c0, .slice A1 n1 c1, .slice A2 n2 c2, .slice A3 n3 c3, .slice A4 n4 c4, m3, (.agg #[.string (⟨#[]⟩ : ByteArray), .int .i64 1, .int .i64 2, .slice A0 n0 c0, .slice A1 n1 c1, .slice A2 n2 c2, .slice A3 n3 c3, .slice A4 n4 c4]), (by rw [ha.out]; exact putSel_upk 6 hb_ rfl rfl rfl), QB, QH, R0, R1, R2, R3, R4, fun h_ => absurd ((hoff 7 (by kernel_rfl)).symm.trans h_) (by decide), X3, fun _ => rfl⟩
  refine steps_cons ?_ ?_
  ·rintro b a w' ⟨v0, v1, v2, v3, v4, m3, m6, ha, QB, QH, R0, R1, R2, R3, R4, QF, X3, X6⟩ hb_ hon hoff
   refine ⟨_, rfl, fun K hK => ?_⟩
   have hsz : g ≤ w'.heap.size := by rw [← hg]; exact QH.size
   have e0 : a.tmps[0]? = some (.pointer (some ⟨g, 0, none⟩)) := by rw [ha]; exact (putSel_off rfl).trans rfl
   have e7 : a.tmps[7]? = some m6 := by rw [ha]; exact putSel_on (e := (6, 7, m6)) 6 rfl rfl (hon 6 (by kernel_rfl)) rfl
   rw [X6 (hon 6 (by kernel_rfl))] at e7
   replace ha := Aside0.mk ha
   have hB := QB hb_
   obtain ⟨A0, n0, c0, rfl⟩ := R_slice3 (R0 (hon 0 (by kernel_rfl)))
   obtain ⟨A1, n1, c1, rfl⟩ := R_slice3 (R1 (hon 1 (by kernel_rfl)))
   obtain ⟨A2, n2, c2, rfl⟩ := R_slice3 (R2 (hon 2 (by kernel_rfl)))
   obtain ⟨A3, n3, c3, rfl⟩ := R_slice3 (R3 (hon 4 (by kernel_rfl)))
   obtain ⟨A4, n4, c4, rfl⟩ := R_slice3 (R4 (hon 5 (by kernel_rfl)))
   obtain ⟨s0, s1, s2, s3, s4, s5, s6, s7⟩ := cells8 hB
   have f0 := blk_frozen hB 0
   have f1 := blk_frozen hB 1
   have f2 := blk_frozen hB 2
   have f3 := blk_frozen hB 3
   have f4 := blk_frozen hB 4
   have f5 := blk_frozen hB 5
   have f6 := blk_frozen hB 6
   have f7 := blk_frozen hB 7
   obtain ⟨p1, p2, p3⟩ := put8_facts hB (.string (⟨#[]⟩ : ByteArray)) (.int .i64 1) (.int .i64 2) (.slice A0 n0 c0) (.slice A1 n1 c1) (.slice A2 n2 c2) (.slice A3 n3 c3) (.slice A4 n4 c4)
   replace hB := Aside0.mk hB
   refine skip_ (w1 := put8 w' g (.string (⟨#[]⟩ : ByteArray)) (.int .i64 1) (.int .i64 2) (.slice A0 n0 c0) (.slice A1 n1 c1) (.slice A2 n2 c2) (.slice A3 n3 c3) (.slice A4 n4 c4)) (by rfl) rfl ?_ ?_
   ·clear p1 p2 p3
    go_simp
    rfl
   exact hK.out _ _ ⟨.slice A0 n0 c0, .slice A1 n1 c1, .slice A2 n2 c2, .slice A3 n3 c3, .slice A4 n4 c4, m3, m6, (by rw [ha.out]; exact putSel_none (v := undef) rfl), fun h0_ => absurd ((up_self b 7).symm.trans h0_) (by decide), p3 _ _ QH (Nat.le_refl _), fun h_ => R_of_heap (R0 h_) hB.out (by decide) p2, fun h_ => R_of_heap (R1 h_) hB.out (by decide) p2, fun h_ => R_of_heap (R2 h_) hB.out (by decide) p2, fun h_ => R_of_heap (R3 h_) hB.out (by decide) p2, fun h_ => R_of_heap (R4 h_) hB.out (by decide) p2, fun _ => p1, X3, X6⟩
  exact steps_nil
 rintro b a w' hall ⟨v0, v1, v2, v3, v4, m3, m6, ha, QB, QH, R0, R1, R2, R3, R4, QF, X3, X6⟩
 have hb0_ := hall 0 (by kernel_rfl)
 have hb1_ := hall 1 (by kernel_rfl)
 have hb2_ := hall 2 (by kernel_rfl)
 have hb3_ := hall 3 (by kernel_rfl)
 have hb4_ := hall 4 (by kernel_rfl)
 have hb5_ := hall 5 (by kernel_rfl)
 have hb6_ := hall 6 (by kernel_rfl)
 have hb7_ := hall 7 (by kernel_rfl)
 subst ha
 have hF := Aside0.mk (QF hb7_)
 have R0' := Aside0.mk (R0 hb0_)
 have R1' := Aside0.mk (R1 hb1_)
 have R2' := Aside0.mk (R2 hb2_)
 have R3' := Aside0.mk (R3 hb4_)
 have R4' := Aside0.mk (R4 hb5_)
 have QH' := Aside0.mk QH
 simp only [putSel, hb0_, hb1_, hb2_, hb3_, hb4_, hb5_, hb6_, if_true, Act.put, List.setIfInBounds_toArray, List.set_cons_zero, List.set_cons_succ]
 clear QB QF R0 R1 R2 R3 R4 X3 X6 QH hall hb0_ hb1_ hb2_ hb3_ hb4_ hb5_ hb6_ hb7_ BK HB
 go_wp2
 subst hg
 refine bodyPost_ret (results_cell_row rfl _ _ w.heap.size 27 #[.string (⟨#[]⟩ : ByteArray), .int .i64 1, .int .i64 2, v0, v1, v2, v3, v4] (0, 0) _ rfl hF.out Tryz.underlying27 rfl (by kernel_rfl)) rfl ?_
 exact ⟨_, _, _, _, _, rfl, R0'.out, R1'.out, R2'.out, R3'.out, R4'.out, QH'.out⟩
end Go.Proofs.YtiipailmldbpbaaGreatDoor.Q
end
section
namespace Go.Proofs.YtiipailmldbpbaaGreatDoor.Q
open Go.RowKit Go.Proofs.YtiipailmldbpbaaGreatDoorW.PrintWords Go.Proofs.YtiipailmldbpbaaGreatDoorW.PrintLast Go.Proofs.YtiipailmldbpbaaGreatDoorW.PrintMore
set_option linter.unusedVariables false
open Go.Proofs.YtiipailmldbpbaaGreatDoorS
def twoT : List ByteArray := [⟨#[67]⟩, ⟨#[]⟩]
theorem awake_start : sstart ⟨#[]⟩ 1 2 twoRow twoRow twoRow twoCells twoClues = (List.replicate 2 ⟨#[]⟩, List.replicate 2 false, 0, false, 0) := by decide +kernel
theorem awake_do1 : doOf ⟨#[]⟩ 1 2 twoRow twoRow twoRow twoCells twoClues (List.replicate 2 ⟨#[]⟩) (List.replicate 2 false) 0 false 1 0 ⟨#[99]⟩ = (twoT, [true, false], 1, false, 0) := by decide +kernel
theorem awake_do2 : doOf ⟨#[]⟩ 1 2 twoRow twoRow twoRow twoCells twoClues twoT [true, false] 1 false 1 0 ⟨#[99, 104]⟩ = (twoCells, [true, true], 1, false, 0) := by decide +kernel
theorem awake_done1 : sdone ⟨#[]⟩ 1 2 twoRow twoRow twoRow twoCells twoClues twoCells [true, true] 1 = true := by decide +kernel
theorem awake_done2 : sdone ⟨#[]⟩ 1 2 twoRow twoRow twoRow twoCells twoClues twoT [true, false] 1 = false := by decide +kernel
theorem DoPost.opened {w w' : World} {r : List ByteArray × List Bool × Int × Bool × Int} {e : Ending} {l : List ByteArray} {b : List Bool} {i er : Int} {dn : Bool} (h : DoPost w r e w') (hr : r = (l, b, i, dn, er)) : ∃ v0 v1, e = .returned (.tuple #[.agg #[v0, v1, .int .i64 i, .bool dn], .int .i64 er]) ∧ Kd.R Kd.string 9 w' w.heap.size (fun _ => True) v0 l ∧ Kd.R Kd.bool 4 w' w.heap.size (fun _ => True) v1 b ∧ Below w.heap.size w w' := by
  subst hr
  exact h
theorem small_of {l : List ByteArray} (h : l.all (fun s => decide (s.size ≤ 1048576)) = true) : Small l := fun s hs => of_decide_eq_true (List.all_eq_true.1 h s hs)
theorem two_s : PuzS ⟨#[]⟩ twoCells twoClues := ⟨by decide, small_of (by decide +kernel), small_of (by decide +kernel), by decide, by decide⟩
set_option maxHeartbeats 8000000 in
set_option maxRecDepth 1000000 in
theorem rebuslaw23_awake.calls (w : World) (hT : Tabs w) :
    Calls Tryz.prog 4 #[] w fun e w' => e = .returned (.bool true) ∧ Below w.heap.size w w' := by
  have hu27 := Tryz.underlying27
  have hu30 := Tryz.underlying29
  have hu36 := Tryz.underlying31
  have e1 := awake_start
  have d1 := Lib.hid awake_do1
  have d2 := Lib.hid awake_do2
  have n1 := awake_done1
  have n2 := awake_done2
  obtain ⟨l0, hl0⟩ : ∃ l : List ByteArray, l = List.replicate 2 ⟨#[]⟩ := ⟨_, rfl⟩
  obtain ⟨b0, hb0⟩ : ∃ l : List Bool, l = List.replicate 2 false := ⟨_, rfl⟩
  obtain ⟨b1, hb1⟩ : ∃ l : List Bool, l = [true, false] := ⟨_, rfl⟩
  obtain ⟨b2, hb2⟩ : ∃ l : List Bool, l = [true, true] := ⟨_, rfl⟩
  have hs0 : Small l0 := by rw [hl0]; exact small_of (by decide +kernel)
  have hs1 : Small twoT := small_of (by decide +kernel)
  have hs2 : Small twoCells := two_s.s
  rw [← hl0, ← hb0] at e1
  replace e1 := Lib.hid e1
  rw [← hl0, ← hb0, ← hb1] at d1
  rw [← hb1, ← hb2] at d2
  rw [← hb2] at n1
  rw [← hb1] at n2
  replace n1 := Lib.hid n1
  replace n2 := Lib.hid n2
  clear hl0 hb0 hb1 hb2
  have tok1 : True := trivial
  have tok2 : True := trivial
  have tok3 : True := trivial
  have tok4 : True := trivial
  go_enter Tryz.func4, Tryz.ntmps4
  go_wp2_with (first
    | (go_at_call 11; go_must (refine (rebuslaw23_two.calls _).mono ?_; rintro e w1 ⟨v0, v1, v2, v3, v4, rfl, r0, r1, r2, r3, r4, hB1⟩; obtain ⟨A0, c0, rfl, k0, C0⟩ := Kd.R_reads r0; obtain ⟨A1, c1, rfl, k1, C1⟩ := Kd.R_reads r1; obtain ⟨A2, c2, rfl, k2, C2⟩ := Kd.R_reads r2; obtain ⟨A3, c3, rfl, k3, C3⟩ := Kd.R_reads r3; obtain ⟨A4, c4, rfl, k4, C4⟩ := Kd.R_reads r4; have hP1 := Lib.hid (PuzR.mk C0 k0 C1 k1 C2 k2 C3 k3 C4 k4); clear r0 r1 r2 r3 r4 C0 C1 C2 C3 C4 k0 k1 k2 k3 k4; replace hB1 := Lib.hid hB1))
    | (go_at_call 12; go_must (have hPa := hP1.out.below (box1 w1 (.cells #[.string (⟨#[]⟩ : ByteArray), .int .i64 1, .int .i64 2, .slice A0 twoRow.length c0, .slice A1 twoRow.length c1, .slice A2 twoRow.length c2, .slice A3 twoCells.length c3, .slice A4 twoClues.length c4] 27)).2; have hTa := tabs_below hT (below_alloc hB1.out (.cells #[.string (⟨#[]⟩ : ByteArray), .int .i64 1, .int .i64 2, .slice A0 twoRow.length c0, .slice A1 twoRow.length c1, .slice A2 twoRow.length c2, .slice A3 twoCells.length c3, .slice A4 twoClues.length c4] 27)); refine (start_calls hTa hPa two_s).mono ?_; clear hPa hTa; rintro e w2 hD; obtain ⟨v5, v6, rfl, r5, r6, hB2⟩ := hD.opened e1.out; clear hD; obtain ⟨A5, c5, rfl, k5, C5⟩ := Kd.R_reads r5; obtain ⟨A6, c6, rfl, k6, C6⟩ := Kd.R_reads r6; have hS2 := Lib.hid (ShtR.mk C5 k5 C6 k6); have bP2 := Lib.hid (blk_below (box1 w1 (.cells #[.string (⟨#[]⟩ : ByteArray), .int .i64 1, .int .i64 2, .slice A0 twoRow.length c0, .slice A1 twoRow.length c1, .slice A2 twoRow.length c2, .slice A3 twoCells.length c3, .slice A4 twoClues.length c4] 27)).1 hB2); have hP2 := Lib.hid (hP1.out.below (below_step (box1 w1 (.cells #[.string (⟨#[]⟩ : ByteArray), .int .i64 1, .int .i64 2, .slice A0 twoRow.length c0, .slice A1 twoRow.length c1, .slice A2 twoRow.length c2, .slice A3 twoCells.length c3, .slice A4 twoClues.length c4] 27)).2 hB2)); replace hB2 := Lib.hid (below_step (below_alloc hB1.out (.cells #[.string (⟨#[]⟩ : ByteArray), .int .i64 1, .int .i64 2, .slice A0 twoRow.length c0, .slice A1 twoRow.length c1, .slice A2 twoRow.length c2, .slice A3 twoCells.length c3, .slice A4 twoClues.length c4] 27)) hB2); have p2 := cells8 bP2.out; have z2 := blk_lt bP2.out; clear r5 r6 C5 C6 k5 k6))
    | (go_at_call 7; have tq := tok1; go_must (clear tq tok1; have hPa := hP2.out.below (box1 w2 (.cells #[.slice A5 l0.length c5, .slice A6 b0.length c6, .int .i64 0, .bool false] 29)).2; have hSa := hS2.out.below (box1 w2 (.cells #[.slice A5 l0.length c5, .slice A6 b0.length c6, .int .i64 0, .bool false] 29)).2; have hTa := tabs_below hT (below_alloc hB2.out (.cells #[.slice A5 l0.length c5, .slice A6 b0.length c6, .int .i64 0, .bool false] 29)); refine (sheet_Do.calls hTa hPa hSa two_s hs0 (by decide)).mono ?_; clear hPa hSa hTa; rintro e w3 hD; obtain ⟨v7, v8, rfl, rA, rB, hBn⟩ := hD.opened d1.out; clear hD; obtain ⟨A7, c7, rfl, kA, CA⟩ := Kd.R_reads rA; obtain ⟨A8, c8, rfl, kB, CB⟩ := Kd.R_reads rB; have hS3 := Lib.hid (ShtR.mk CA kA CB kB); have bS3 := Lib.hid (blk_below (box1 w2 (.cells #[.slice A5 l0.length c5, .slice A6 b0.length c6, .int .i64 0, .bool false] 29)).1 hBn); have hBx := below_step (box1 w2 (.cells #[.slice A5 l0.length c5, .slice A6 b0.length c6, .int .i64 0, .bool false] 29)).2 hBn; have hP3 := Lib.hid (hP2.out.below hBx); have bP3 := Lib.hid (blk_below bP2.out hBx); skip; have hB3 := Lib.hid (below_step hB2.out hBx); have p3 := cells8 bP3.out; have q3 := cells4 bS3.out; have z3 := blk_lt bS3.out; have y3 := blk_lt bP3.out; clear rA rB CA CB kA kB hBn hBx p2))
    | (go_at_call 7; have tq := tok2; go_must (clear tq tok2; have hPa := hP3.out.below (box1 w3 (.cells #[.slice A7 twoT.length c7, .slice A8 b1.length c8, .int .i64 1, .bool false] 29)).2; have hSa := hS3.out.below (box1 w3 (.cells #[.slice A7 twoT.length c7, .slice A8 b1.length c8, .int .i64 1, .bool false] 29)).2; have hTa := tabs_below hT (below_alloc hB3.out (.cells #[.slice A7 twoT.length c7, .slice A8 b1.length c8, .int .i64 1, .bool false] 29)); refine (sheet_Do.calls hTa hPa hSa two_s hs1 (by decide)).mono ?_; clear hPa hSa hTa; rintro e w4 hD; obtain ⟨v9, va, rfl, rA, rB, hBn⟩ := hD.opened d2.out; clear hD; obtain ⟨A9, c9, rfl, kA, CA⟩ := Kd.R_reads rA; obtain ⟨Aa, ca, rfl, kB, CB⟩ := Kd.R_reads rB; have hS4 := Lib.hid (ShtR.mk CA kA CB kB); have bS4 := Lib.hid (blk_below (box1 w3 (.cells #[.slice A7 twoT.length c7, .slice A8 b1.length c8, .int .i64 1, .bool false] 29)).1 hBn); have hBx := below_step (box1 w3 (.cells #[.slice A7 twoT.length c7, .slice A8 b1.length c8, .int .i64 1, .bool false] 29)).2 hBn; have hP4 := Lib.hid (hP3.out.below hBx); have hBy := Lib.hid hBx; have bP4 := Lib.hid (blk_below bP3.out hBx); skip; have hB4 := Lib.hid (below_step hB3.out hBx); have p4 := cells8 bP4.out; have q4 := cells4 bS4.out; have z4 := blk_lt bS4.out; have y4 := blk_lt bP4.out; clear rA rB CA CB kA kB hBn hBx p3))
    | (go_at_call 13; have tq := tok3; go_must (clear tq tok3; have hPa := hP4.out.below (box1 w4 (.cells #[.slice A9 twoCells.length c9, .slice Aa b2.length ca, .int .i64 1, .bool false] 29)).2; have hSa := hS4.out.below (box1 w4 (.cells #[.slice A9 twoCells.length c9, .slice Aa b2.length ca, .int .i64 1, .bool false] 29)).2; have hTa := tabs_below hT (below_alloc hB4.out (.cells #[.slice A9 twoCells.length c9, .slice Aa b2.length ca, .int .i64 1, .bool false] 29)); refine (done_calls hTa hPa hSa two_s hs2).mono ?_; clear hPa hSa hTa; rintro e w5 ⟨rfl, hb5⟩; rw [n1.out]; have hBx := below_step (box1 w4 (.cells #[.slice A9 twoCells.length c9, .slice Aa b2.length ca, .int .i64 1, .bool false] 29)).2 hb5; have bP5 := blk_below bP4.out hBx; have bS5 := blk_below bS4.out hBx; have hP5 := Lib.hid (hP4.out.below hBx); have hS5 := Lib.hid ((hS3.out.below hBy.out).below hBx); have hB5 := Lib.hid (below_step hB4.out hBx); have p5 := cells8 bP5; have q5 := cells4 bS5; clear hb5 hBx bP5 bS5 p4 q4))
    | (go_at_call 13; have tq := tok4; go_must (clear tq tok4; refine (done_calls (tabs_below hT hB5.out) hP5.out hS5.out two_s hs1).mono ?_; rintro e w6 ⟨rfl, hb6⟩; rw [n2.out]))
    )
  go_ret
  exact ⟨rfl, below_step hB5.out hb6⟩
end Go.Proofs.YtiipailmldbpbaaGreatDoor.Q
end
section
namespace Go.Proofs.YtiipailmldbpbaaGreatDoor.Q
open Go.RowKit Go.Proofs.YtiipailmldbpbaaGreatDoorW.PrintWords Go.Proofs.YtiipailmldbpbaaGreatDoorW.PrintLast Go.Proofs.YtiipailmldbpbaaGreatDoorW.PrintMore
set_option linter.unusedVariables false
set_option linter.unusedSimpArgs false
open Go.Proofs.YtiipailmldbpbaaGreatDoorS
def actsT : Bool × List (List Nat × List Nat) := (true, [([], []), ([0], [0]), ([], []), ([2, 1], [2]), ([], []), ([], []), ([4, 1, 3, 0, 1, 4, 5], [1, 4]), ([5, 3, 6, 0, 1, 2, 3, 4, 5, 6], [3, 5])])
def actsW : List Nat := [0, 1, 0, 7, 0, 0, 63, 127]
theorem actsTab : rtab .any (opsOf Tryz.f3 3) = actsT := by kernel_rfl
theorem actsBits : waitsOk actsT.2 actsW = true := by kernel_rfl
structure ActB (w wr : World) (pc sc ac : Array Value) : Prop where
  p : wr.heap[w.heap.size]? = some (.cells pc 27 (0, 0))
  s : wr.heap[w.heap.size + 1]? = some (.cells sc 29 (0, 0))
  a : wr.heap[w.heap.size + 1 + 1]? = some (.cells ac 31 (0, 0))
  b : Below w.heap.size w wr
theorem ActB.below {w wr w2 : World} {pc sc ac : Array Value} (h : ActB w wr pc sc ac) (hb : Below wr.heap.size wr w2) : ActB w w2 pc sc ac := ⟨blk_below h.p hb, blk_below h.s hb, blk_below h.a hb, below_step h.b hb⟩
theorem ActB.heap {w wr w2 : World} {pc sc ac : Array Value} (h : ActB w wr pc sc ac) {g : Nat} (hg : w.heap.size + 1 + 1 < g) (hk : ∀ k, k ≠ g → w2.heap[k]? = wr.heap[k]?) (hb : ∀ B w0, Below B w0 wr → B ≤ g → Below B w0 w2) : ActB w w2 pc sc ac := ⟨(hk _ (by omega)).trans h.p, (hk _ (by omega)).trans h.s, (hk _ (by omega)).trans h.a, hb _ _ h.b (by omega)⟩
theorem doOf_len {title : ByteArray} {H W : Int} {bl ri be : List Bool} {cells clues sc : List ByteArray} {ss : List Bool} {at_ : Int} {dn : Bool} {kind cell : Int} {text : ByteArray} {tc : List ByteArray} {ts : List Bool} {ta : Int} {td : Bool} {er : Int} (h : doOf title H W bl ri be cells clues sc ss at_ dn kind cell text = (tc, ts, ta, td, er)) (hl : sc.length ≤ 1048576) : tc.length = ts.length ∧ tc.length ≤ 1048576 := by
  unfold doOf at h
  split at h
  · rename_i h0
    obtain ⟨_, l0, l1, _⟩ := scheck_grid h0
    have hA : ∀ {a : List ByteArray} {b : List Bool}, a.length = sc.length → b.length = ss.length → a.length = b.length ∧ a.length ≤ 1048576 := fun e1 e2 => ⟨by omega, by omega⟩
    split at h
    · cases h; exact ⟨rfl, by simp⟩
    · unfold doAct at h
      repeat' split at h
      all_goals (cases h; first | exact ⟨rfl, by simp⟩ | exact hA (by simp) (by simp))
  · cases h; exact ⟨rfl, by simp⟩
structure Rows2 (w5 wr : World) (bt : Nat) (tb : Array Value) (C0 C1 : Option Addr) (n m k0 k1 : Nat) (xs : List ByteArray) (bs : List Bool) : Prop where
  x : Kd.R Kd.string 9 wr w5.heap.size (fun _ => True) (.slice C0 n k0) xs
  y : Kd.R Kd.bool 4 wr w5.heap.size (fun _ => True) (.slice C1 m k1) bs
  t : wr.heap[bt]? = some (.cells tb 29 (0, 0))
  b : Below w5.heap.size w5 wr
  n : xs.length = n
  m : bs.length = m
theorem Rows2.drew {w5 wr : World} {bt : Nat} {tb : Array Value} {C0 C1 : Option Addr} {n m k0 k1 : Nat} {xs : List ByteArray} {bs : List Bool} (h : Rows2 w5 wr bt tb C0 C1 n m k0 k1 xs bs) : Rows2 w5 wr.drew bt tb C0 C1 n m k0 k1 xs bs := ⟨Kd.R_drew h.x, Kd.R_drew h.y, blk_drew h.t, below_drew h.b, h.n, h.m⟩
theorem Rows2.setX {w5 wr : World} {bt : Nat} {tb : Array Value} {g0 : Nat} {C1 : Option Addr} {n m k0 k1 : Nat} {xs : List ByteArray} {bs : List Bool} (h : Rows2 w5 wr bt tb (some ⟨g0, 0, none⟩) C1 n m k0 k1 xs bs) (i : Int) (x : ByteArray) : Rows2 w5 (wr.setCell ⟨g0, i.toNat, none⟩ (.string x)) bt tb (some ⟨g0, 0, none⟩) C1 n m k0 k1 (xs.set i.toNat x) bs := by
  obtain ⟨hx, hy, ht, hb, hn, hm⟩ := h
  subst hn
  obtain ⟨cs, hc⟩ := Kd.R_typed hx g0 rfl
  have hk : ∀ k, k ≠ g0 → (wr.setCell ⟨g0, i.toNat, none⟩ (.string x)).heap[k]? = wr.heap[k]? := fun k hk => Below.heap_setCell wr _ _ k hk
  have hne : bt ≠ g0 := fun e => by have := Kd.R_ne hx ht (by decide); simp [Value.ownBlock, e] at this
  exact ⟨(Kd.R_put hx i x).1, R_of_heap hy hc (by decide) hk, (hk _ hne).trans ht, hb.setCell (Kd.R_base hx g0 rfl) _, by rw [List.length_set], hm⟩
theorem Rows2.setB {w5 wr : World} {bt : Nat} {tb : Array Value} {g1 : Nat} {C0 : Option Addr} {n m k0 k1 : Nat} {xs : List ByteArray} {bs : List Bool} (h : Rows2 w5 wr bt tb C0 (some ⟨g1, 0, none⟩) n m k0 k1 xs bs) (i : Int) (x : Bool) : Rows2 w5 (wr.setCell ⟨g1, i.toNat, none⟩ (.bool x)) bt tb C0 (some ⟨g1, 0, none⟩) n m k0 k1 xs (bs.set i.toNat x) := by
  obtain ⟨hx, hy, ht, hb, hn, hm⟩ := h
  subst hm
  obtain ⟨cs, hc⟩ := Kd.R_typed hy g1 rfl
  have hk : ∀ k, k ≠ g1 → (wr.setCell ⟨g1, i.toNat, none⟩ (.bool x)).heap[k]? = wr.heap[k]? := fun k hk => Below.heap_setCell wr _ _ k hk
  have hne : bt ≠ g1 := fun e => by have := Kd.R_ne hy ht (by decide); simp [Value.ownBlock, e] at this
  exact ⟨R_of_heap hx hc (by decide) hk, (Kd.R_put hy i x).1, (hk _ hne).trans ht, hb.setCell (Kd.R_base hy g1 rfl) _, hn, by rw [List.length_set]⟩
theorem Rows2.spotX {w5 wr : World} {bt : Nat} {tb : Array Value} {g0 : Nat} {C1 : Option Addr} {n m k0 k1 : Nat} {xs : List ByteArray} {bs : List Bool} (h : Rows2 w5 wr bt tb (some ⟨g0, 0, none⟩) C1 n m k0 k1 xs bs) (i : Int) (h0 : 0 ≤ i) (h1 : i < n) : wr.cell? ⟨g0, i.toNat, none⟩ = some (.string (rdOf ByteArray.empty xs i)) ∧ wr.frozen? ⟨g0, i.toNat, none⟩ = false := by
  obtain ⟨c0, hc0⟩ := Kd.R_typed h.x g0 rfl
  have hx := h.x
  rw [← h.n] at hx h1
  obtain ⟨a0, e0, z0⟩ := Kd.at_string (Kd.R_reads' hx).2.2 i h0 h1
  cases e0
  rw [add_plain] at z0
  exact ⟨z0, blk_frozen hc0 i.toNat⟩
theorem Rows2.spotB {w5 wr : World} {bt : Nat} {tb : Array Value} {g1 : Nat} {C0 : Option Addr} {n m k0 k1 : Nat} {xs : List ByteArray} {bs : List Bool} (h : Rows2 w5 wr bt tb C0 (some ⟨g1, 0, none⟩) n m k0 k1 xs bs) (i : Int) (h0 : 0 ≤ i) (h1 : i < m) : wr.cell? ⟨g1, i.toNat, none⟩ = some (.bool (rdOf false bs i)) ∧ wr.frozen? ⟨g1, i.toNat, none⟩ = false := by
  obtain ⟨c0, hc0⟩ := Kd.R_typed h.y g1 rfl
  have hy := h.y
  rw [← h.m] at hy h1
  obtain ⟨a0, e0, z0⟩ := Kd.at_bool (Kd.R_reads' hy).2.2 i h0 h1
  cases e0
  rw [add_plain] at z0
  exact ⟨z0, blk_frozen hc0 i.toNat⟩
set_option maxHeartbeats 16000000 in
set_option maxRecDepth 1000000 in
theorem SheetActs.calls {title : ByteArray} {H W : Int} {A2 : Option Addr} {c2 : Nat} {bl : List Bool} {A3 : Option Addr} {c3 : Nat} {ri : List Bool} {A4 : Option Addr} {c4 : Nat} {be : List Bool} {A5 : Option Addr} {c5 : Nat} {cells : List ByteArray} {A6 : Option Addr} {c6 : Nat} {clues : List ByteArray} {A7 : Option Addr} {c7 : Nat} {sc : List ByteArray} {A8 : Option Addr} {c8 : Nat} {ss : List Bool} {at_ : Int} {dn : Bool} {kind cell : Int} {text : ByteArray} {w : World} (hT : Tabs w) (hP : PuzR A2 c2 bl A3 c3 ri A4 c4 be A5 c5 cells A6 c6 clues w) (hS : ShtR A7 c7 sc A8 c8 ss w) (hz : PuzS title cells clues) (hzs : Small sc) (hG : GridS bl ri be) (hsl : sc.length ≤ 1048576) (hsm : ss.length ≤ 1048576) (hzt : text.size ≤ 1048576) :
    Calls Tryz.prog 3 #[.agg #[.string title, .int .i64 H, .int .i64 W, .slice A2 bl.length c2, .slice A3 ri.length c3, .slice A4 be.length c4, .slice A5 cells.length c5, .slice A6 clues.length c6], .agg #[.slice A7 sc.length c7, .slice A8 ss.length c8, .int .i64 at_, .bool dn], .agg #[.int .i64 kind, .int .i64 cell, .string text]] w fun e w' => e = .returned (.bool true) ∧ Below w.heap.size w w' := by
  have hx := box3 w (.cells #[.string title, .int .i64 H, .int .i64 W, .slice A2 bl.length c2, .slice A3 ri.length c3, .slice A4 be.length c4, .slice A5 cells.length c5, .slice A6 clues.length c6] 27) (.cells #[.slice A7 sc.length c7, .slice A8 ss.length c8, .int .i64 at_, .bool dn] 29) (.cells #[.int .i64 kind, .int .i64 cell, .string text] 31)
  replace hx := Lib.hid (ActB.mk hx.1 hx.2.1 hx.2.2.1 hx.2.2.2)
  have hu27 := Tryz.underlying27
  have hu24 := Tryz.underlying24
  have hu30 := Tryz.underlying29
  have hu36 := Tryz.underlying31
  go_enter Tryz.func3, Tryz.ntmps3
  go_wp2_with (first
    | (go_at_call 4; go_must (refine (rebuslaw23_awake.calls _ (tabs_below hT hx.out.b)).mono ?_; rintro e w3 ⟨rfl, hb3⟩; have hA := hx.out.below hb3; clear hb3)))
  refine start_ (n := 8) (S := fun w' => True) (ds := []) #[false, false, false, false, false, false, false, false] (by kernel_rfl) rfl rfl trivial (fun hHeld => ?_)
  refine with_tabW actsTab actsBits (fun HT_ HW_ => ?_)
  have hA := hA.below (below_drew (Below.refl _ _))
  generalize w3.drew = w4 at hA hHeld ⊢
  refine inv_at [0, 1, 2, 3, 4, 5, 6, 7] (fun a0_ b a w' => ∃ (m0 m1 m2 m3 : Value) (g4 g5 : Nat), a = putSel a0_ b [(0, 16, m0), (1, 17, m1), (2, 18, m2), (3, 19, m3), (4, 7, .pointer (some ⟨g4, 0, none⟩)), (5, 8, .pointer (some ⟨g5, 0, none⟩))] ∧ ActB w w' #[.string title, .int .i64 H, .int .i64 W, .slice A2 bl.length c2, .slice A3 ri.length c3, .slice A4 be.length c4, .slice A5 cells.length c5, .slice A6 clues.length c6] #[.slice A7 sc.length c7, .slice A8 ss.length c8, .int .i64 at_, .bool dn] #[.int .i64 kind, .int .i64 cell, .string text] ∧ (b 0 = true → m0 = .agg #[.slice A7 sc.length c7, .slice A8 ss.length c8, .int .i64 at_, .bool dn]) ∧ (b 2 = true → m2 = .agg #[.string title, .int .i64 H, .int .i64 W, .slice A2 bl.length c2, .slice A3 ri.length c3, .slice A4 be.length c4, .slice A5 cells.length c5, .slice A6 clues.length c6]) ∧ (b 1 = true → ∃ (B7 : Option Addr) (b7 : Nat) (B8 : Option Addr) (b8 : Nat), m1 = .agg #[.slice B7 sc.length b7, .slice B8 ss.length b8, .int .i64 at_, .bool dn] ∧ Kd.R Kd.string 9 w' w.heap.size (fun _ => True) (.slice B7 sc.length b7) sc ∧ Kd.R Kd.bool 4 w' w.heap.size (fun _ => True) (.slice B8 ss.length b8) ss) ∧ (b 3 = true → ∃ (B2 : Option Addr) (b2 : Nat) (B3 : Option Addr) (b3 : Nat) (B4 : Option Addr) (b4 : Nat) (B5 : Option Addr) (b5 : Nat) (B6 : Option Addr) (b6 : Nat), m3 = .agg #[.string title, .int .i64 H, .int .i64 W, .slice B2 bl.length b2, .slice B3 ri.length b3, .slice B4 be.length b4, .slice B5 cells.length b5, .slice B6 clues.length b6] ∧ PuzO B2 b2 bl B3 b3 ri B4 b4 be B5 b5 cells B6 b6 clues w.heap.size w') ∧ (b 4 = true → w.heap.size + 1 + 1 < g4 ∧ (b 6 = false → w'.heap[g4]? = some (.cells #[.slice none 0 0, .slice none 0 0, .int .i64 0, .bool false] 29 (0, 0)))) ∧ (b 5 = true → w.heap.size + 1 + 1 < g5 ∧ (b 7 = false → w'.heap[g5]? = some (.cells #[.string ⟨#[]⟩, .int .i64 0, .int .i64 0, .slice none 0 0, .slice none 0 0, .slice none 0 0, .slice none 0 0, .slice none 0 0] 27 (0, 0)))) ∧ (b 6 = true → ∃ l, m1 = .agg l ∧ w'.heap[g4]? = some (.cells l 29 (0, 0))) ∧ (b 7 = true → ∃ l, m3 = .agg l ∧ w'.heap[g5]? = some (.cells l 27 (0, 0)))) HT_.out HW_.out (by kernel_rfl) (by kernel_rfl) ?_ ?_ ?_
  · exact ⟨.bool false, .bool false, .bool false, .bool false, 0, 0, by simp only [putSel, Bool.false_eq_true, if_false], hA, fun h_ => absurd h_ (by decide), fun h_ => absurd h_ (by decide), fun h_ => absurd h_ (by decide), fun h_ => absurd h_ (by decide), fun h_ => absurd h_ (by decide), fun h_ => absurd h_ (by decide), fun h_ => absurd h_ (by decide), fun h_ => absurd h_ (by decide)⟩
  · clear hA
    refine steps_cons ?_ ?_
    · rintro b a w' ⟨m0, m1, m2, m3, g4, g5, ha, hB, X0, X2, X1, X3, X4, X5, X6, X7⟩ hb_ hon hoff
      refine ⟨_, rfl, fun K hK => ?_⟩
      have e4 : a.tmps[4]? = some (.pointer (some ⟨w.heap.size + 1, 0, none⟩)) := by rw [ha]; exact (putSel_off rfl).trans rfl
      have c0 := cells4 hB.s
      replace ha := Aside0.mk ha
      refine value_ (w1 := w') (v := .agg #[.slice A7 sc.length c7, .slice A8 ss.length c8, .int .i64 at_, .bool dn]) (by rfl) rfl ?_ ?_
      · go_simp
        try rfl
      exact hK.out _ _ ⟨.agg #[.slice A7 sc.length c7, .slice A8 ss.length c8, .int .i64 at_, .bool dn], m1, m2, m3, g4, g5, (by rw [ha.out]; exact putSel_upk 0 hb_ rfl rfl rfl), hB, fun _ => rfl, X2, X1, X3, X4, X5, X6, X7⟩
    refine steps_cons ?_ ?_
    · rintro b a w' ⟨m0, m1, m2, m3, g4, g5, ha, hB, X0, X2, X1, X3, X4, X5, X6, X7⟩ hb_ hon hoff
      refine ⟨_, rfl, fun K hK => ?_⟩
      have e16 : a.tmps[16]? = some m0 := by rw [ha]; exact putSel_on (e := (0, 16, m0)) 0 rfl rfl (hon 0 (by kernel_rfl)) rfl
      rw [X0 (hon 0 (by kernel_rfl))] at e16
      replace ha := Aside0.mk ha
      refine goes_ Tryz.func5 (by kernel_rfl) rfl #[.agg #[.slice A7 sc.length c7, .slice A8 ss.length c8, .int .i64 at_, .bool dn]] (by rfl) rfl rfl (by first | (go_simp; done) | (go_simp; rfl)) ?_
      refine (rebusref23_Copied.calls (hS.below hB.b) hsl hsm).mono ?_
      rintro e w5 ⟨v0, v1, rfl, r0, r1, hb⟩
      obtain ⟨B7, b7, rfl⟩ := Kd.R_slice r0
      obtain ⟨B8, b8, rfl⟩ := Kd.R_slice r1
      refine ⟨_, rfl, ?_⟩
      exact hK.out _ _ ⟨m0, .agg #[.slice B7 sc.length b7, .slice B8 ss.length b8, .int .i64 at_, .bool dn], m2, m3, g4, g5, (by rw [ha.out]; exact putSel_upk 1 hb_ rfl rfl rfl), hB.below hb, X0, X2, fun _ => ⟨B7, b7, B8, b8, rfl, Kd.R_lower r0 (below_size hB.b), Kd.R_lower r1 (below_size hB.b)⟩, fun h_ => absurd ((hoff 3 (by kernel_rfl)).symm.trans h_) (by decide), fun h_ => ⟨(X4 h_).1, fun h2 => blk_below ((X4 h_).2 h2) hb⟩, fun h_ => ⟨(X5 h_).1, fun h2 => blk_below ((X5 h_).2 h2) hb⟩, fun h_ => absurd ((hoff 6 (by kernel_rfl)).symm.trans h_) (by decide), fun h_ => absurd ((hoff 7 (by kernel_rfl)).symm.trans h_) (by decide)⟩
    refine steps_cons ?_ ?_
    · rintro b a w' ⟨m0, m1, m2, m3, g4, g5, ha, hB, X0, X2, X1, X3, X4, X5, X6, X7⟩ hb_ hon hoff
      refine ⟨_, rfl, fun K hK => ?_⟩
      have e3 : a.tmps[3]? = some (.pointer (some ⟨w.heap.size, 0, none⟩)) := by rw [ha]; exact (putSel_off rfl).trans rfl
      have c0 := cells8 hB.p
      replace ha := Aside0.mk ha
      refine value_ (w1 := w') (v := .agg #[.string title, .int .i64 H, .int .i64 W, .slice A2 bl.length c2, .slice A3 ri.length c3, .slice A4 be.length c4, .slice A5 cells.length c5, .slice A6 clues.length c6]) (by rfl) rfl ?_ ?_
      · go_simp
        try rfl
      exact hK.out _ _ ⟨m0, m1, .agg #[.string title, .int .i64 H, .int .i64 W, .slice A2 bl.length c2, .slice A3 ri.length c3, .slice A4 be.length c4, .slice A5 cells.length c5, .slice A6 clues.length c6], m3, g4, g5, (by rw [ha.out]; exact putSel_upk 2 hb_ rfl rfl rfl), hB, X0, fun _ => rfl, X1, X3, X4, X5, X6, X7⟩
    refine steps_cons ?_ ?_
    · rintro b a w' ⟨m0, m1, m2, m3, g4, g5, ha, hB, X0, X2, X1, X3, X4, X5, X6, X7⟩ hb_ hon hoff
      refine ⟨_, rfl, fun K hK => ?_⟩
      have e18 : a.tmps[18]? = some m2 := by rw [ha]; exact putSel_on (e := (2, 18, m2)) 2 rfl rfl (hon 2 (by kernel_rfl)) rfl
      rw [X2 (hon 2 (by kernel_rfl))] at e18
      replace ha := Aside0.mk ha
      refine goes_ Tryz.func6 (by kernel_rfl) rfl #[.agg #[.string title, .int .i64 H, .int .i64 W, .slice A2 bl.length c2, .slice A3 ri.length c3, .slice A4 be.length c4, .slice A5 cells.length c5, .slice A6 clues.length c6]] (by rfl) rfl rfl (by first | (go_simp; done) | (go_simp; rfl)) ?_
      refine (rebusref21_Copied.calls hG hz (hP.below hB.b)).mono ?_
      rintro e w5 ⟨B2, b2, B3, b3, B4, b4, B5, b5, B6, b6, rfl, o, hb⟩
      refine ⟨_, rfl, ?_⟩
      exact hK.out _ _ ⟨m0, m1, m2, .agg #[.string title, .int .i64 H, .int .i64 W, .slice B2 bl.length b2, .slice B3 ri.length b3, .slice B4 be.length b4, .slice B5 cells.length b5, .slice B6 clues.length b6], g4, g5, (by rw [ha.out]; exact putSel_upk 3 hb_ rfl rfl rfl), hB.below hb, X0, X2, fun h_ => (by obtain ⟨B7, b7, B8, b8, e, r1, r2⟩ := X1 h_; exact ⟨B7, b7, B8, b8, e, Kd.R_below r1 hb, Kd.R_below r2 hb⟩), fun _ => ⟨B2, b2, B3, b3, B4, b4, B5, b5, B6, b6, rfl, o.lower (below_size hB.b)⟩, fun h_ => ⟨(X4 h_).1, fun h2 => blk_below ((X4 h_).2 h2) hb⟩, fun h_ => ⟨(X5 h_).1, fun h2 => blk_below ((X5 h_).2 h2) hb⟩, fun h_ => absurd ((hoff 6 (by kernel_rfl)).symm.trans h_) (by decide), fun h_ => absurd ((hoff 7 (by kernel_rfl)).symm.trans h_) (by decide)⟩
    refine steps_cons ?_ ?_
    · rintro b a w' ⟨m0, m1, m2, m3, g4, g5, ha, hB, X0, X2, X1, X3, X4, X5, X6, X7⟩ hb_ hon hoff
      refine ⟨_, rfl, fun K hK => ?_⟩
      replace ha := Aside0.mk ha
      have hb := below_alloc (Below.refl w'.heap.size w') (.cells #[.slice none 0 0, .slice none 0 0, .int .i64 0, .bool false] 29)
      refine value_ (w1 := w'.alloc (.cells #[.slice none 0 0, .slice none 0 0, .int .i64 0, .bool false] 29)) (v := .pointer (some ⟨w'.heap.size, 0, none⟩)) (by rfl) rfl ?_ ?_
      · go_simp
        try rfl
      have nb := blk_new w' (.cells #[.slice none 0 0, .slice none 0 0, .int .i64 0, .bool false] 29)
      have ng := blk_lt hB.a
      exact hK.out _ _ ⟨m0, m1, m2, m3, w'.heap.size, g5, (by rw [ha.out]; exact putSel_upk 4 hb_ rfl rfl rfl), hB.below hb, X0, X2, fun h_ => (by obtain ⟨B7, b7, B8, b8, e, r1, r2⟩ := X1 h_; exact ⟨B7, b7, B8, b8, e, Kd.R_below r1 hb, Kd.R_below r2 hb⟩), fun h_ => (by obtain ⟨B2, b2, B3, b3, B4, b4, B5, b5, B6, b6, e, o⟩ := X3 h_; exact ⟨B2, b2, B3, b3, B4, b4, B5, b5, B6, b6, e, o.below hb⟩), fun _ => ⟨ng, fun _ => nb⟩, fun h_ => ⟨(X5 h_).1, fun h2 => blk_below ((X5 h_).2 h2) hb⟩, fun h_ => absurd ((hoff 6 (by kernel_rfl)).symm.trans h_) (by decide), fun h_ => absurd ((hoff 7 (by kernel_rfl)).symm.trans h_) (by decide)⟩
    refine steps_cons ?_ ?_
    · rintro b a w' ⟨m0, m1, m2, m3, g4, g5, ha, hB, X0, X2, X1, X3, X4, X5, X6, X7⟩ hb_ hon hoff
      refine ⟨_, rfl, fun K hK => ?_⟩
      replace ha := Aside0.mk ha
      have hb := below_alloc (Below.refl w'.heap.size w') (.cells #[.string ⟨#[]⟩, .int .i64 0, .int .i64 0, .slice none 0 0, .slice none 0 0, .slice none 0 0, .slice none 0 0, .slice none 0 0] 27)
      refine value_ (w1 := w'.alloc (.cells #[.string ⟨#[]⟩, .int .i64 0, .int .i64 0, .slice none 0 0, .slice none 0 0, .slice none 0 0, .slice none 0 0, .slice none 0 0] 27)) (v := .pointer (some ⟨w'.heap.size, 0, none⟩)) (by rfl) rfl ?_ ?_
      · go_simp
        try rfl
      have nb := blk_new w' (.cells #[.string ⟨#[]⟩, .int .i64 0, .int .i64 0, .slice none 0 0, .slice none 0 0, .slice none 0 0, .slice none 0 0, .slice none 0 0] 27)
      have ng := blk_lt hB.a
      exact hK.out _ _ ⟨m0, m1, m2, m3, g4, w'.heap.size, (by rw [ha.out]; exact putSel_upk 5 hb_ rfl rfl rfl), hB.below hb, X0, X2, fun h_ => (by obtain ⟨B7, b7, B8, b8, e, r1, r2⟩ := X1 h_; exact ⟨B7, b7, B8, b8, e, Kd.R_below r1 hb, Kd.R_below r2 hb⟩), fun h_ => (by obtain ⟨B2, b2, B3, b3, B4, b4, B5, b5, B6, b6, e, o⟩ := X3 h_; exact ⟨B2, b2, B3, b3, B4, b4, B5, b5, B6, b6, e, o.below hb⟩), fun h_ => ⟨(X4 h_).1, fun h2 => blk_below ((X4 h_).2 h2) hb⟩, fun _ => ⟨ng, fun _ => nb⟩, fun h_ => (by obtain ⟨l, e, h⟩ := X6 h_; exact ⟨l, e, blk_below h hb⟩), fun h_ => absurd ((hoff 7 (by kernel_rfl)).symm.trans h_) (by decide)⟩
    refine steps_cons ?_ ?_
    · rintro b a w' ⟨m0, m1, m2, m3, g4, g5, ha, hB, X0, X2, X1, X3, X4, X5, X6, X7⟩ hb_ hon hoff
      refine ⟨_, rfl, fun K hK => ?_⟩
      obtain ⟨hg4, gz⟩ := X4 (hon 4 (by kernel_rfl))
      replace gz := gz hb_
      have e7 : a.tmps[7]? = some (.pointer (some ⟨g4, 0, none⟩)) := by rw [ha]; exact putSel_on (e := (4, 7, (.pointer (some ⟨g4, 0, none⟩) : Value))) 4 rfl rfl (hon 4 (by kernel_rfl)) rfl
      have e17 : a.tmps[17]? = some m1 := by rw [ha]; exact putSel_on (e := (1, 17, m1)) 1 rfl rfl (hon 1 (by kernel_rfl)) rfl
      obtain ⟨B7, b7, B8, b8, rfl, r1, r2⟩ := X1 (hon 1 (by kernel_rfl))
      replace ha := Aside0.mk ha
      have t8 := cells4 gz
      have f8 := frozen4 gz
      have F8 := put4_facts gz (.slice B7 sc.length b7) (.slice B8 ss.length b8) (.int .i64 at_) (.bool dn)
      refine skip_ (w1 := put4 w' g4 (.slice B7 sc.length b7) (.slice B8 ss.length b8) (.int .i64 at_) (.bool dn)) (by rfl) rfl (by first | (go_simp; done) | (go_simp; rfl)) ?_
      exact hK.out _ _ ⟨m0, _, m2, m3, g4, g5, (by rw [ha.out]; exact putSel_none (v := undef) rfl), hB.heap hg4 F8.2.1 F8.2.2, X0, X2, fun _ => ⟨B7, b7, B8, b8, rfl, R_of_heap r1 gz (by decide) F8.2.1, R_of_heap r2 gz (by decide) F8.2.1⟩, fun h_ => (by obtain ⟨B2, b2, B3, b3, B4, b4, B5, b5, B6, b6, e, o⟩ := X3 h_; exact ⟨B2, b2, B3, b3, B4, b4, B5, b5, B6, b6, e, o.heap gz (by decide) (by decide) F8.2.1⟩), fun _ => ⟨hg4, fun h0_ => absurd ((up_self b 6).symm.trans h0_) (by decide)⟩, fun h_ => ⟨(X5 h_).1, fun h2 => (F8.2.1 _ (fun e => by have z := (X5 h_).2 h2; rw [e, gz] at z; simp at z)).trans ((X5 h_).2 h2)⟩, fun _ => ⟨_, rfl, F8.1⟩, fun h_ => absurd ((hoff 7 (by kernel_rfl)).symm.trans h_) (by decide)⟩
    refine steps_cons ?_ ?_
    · rintro b a w' ⟨m0, m1, m2, m3, g4, g5, ha, hB, X0, X2, X1, X3, X4, X5, X6, X7⟩ hb_ hon hoff
      refine ⟨_, rfl, fun K hK => ?_⟩
      obtain ⟨hg5, gz⟩ := X5 (hon 5 (by kernel_rfl))
      replace gz := gz hb_
      have e8 : a.tmps[8]? = some (.pointer (some ⟨g5, 0, none⟩)) := by rw [ha]; exact putSel_on (e := (5, 8, (.pointer (some ⟨g5, 0, none⟩) : Value))) 5 rfl rfl (hon 5 (by kernel_rfl)) rfl
      have e19 : a.tmps[19]? = some m3 := by rw [ha]; exact putSel_on (e := (3, 19, m3)) 3 rfl rfl (hon 3 (by kernel_rfl)) rfl
      obtain ⟨B2, b2, B3, b3, B4, b4, B5, b5, B6, b6, rfl, o⟩ := X3 (hon 3 (by kernel_rfl))
      replace ha := Aside0.mk ha
      have t8 := cells8 gz
      have f8 := frozen8 gz
      have F8 := put8_facts gz (.string title) (.int .i64 H) (.int .i64 W) (.slice B2 bl.length b2) (.slice B3 ri.length b3) (.slice B4 be.length b4) (.slice B5 cells.length b5) (.slice B6 clues.length b6)
      refine skip_ (w1 := put8 w' g5 (.string title) (.int .i64 H) (.int .i64 W) (.slice B2 bl.length b2) (.slice B3 ri.length b3) (.slice B4 be.length b4) (.slice B5 cells.length b5) (.slice B6 clues.length b6)) (by rfl) rfl (by first | (go_simp; done) | (go_simp; rfl)) ?_
      exact hK.out _ _ ⟨m0, m1, m2, _, g4, g5, (by rw [ha.out]; exact putSel_none (v := undef) rfl), hB.heap hg5 F8.2.1 F8.2.2, X0, X2, fun h_ => (by obtain ⟨B7, b7, B8, b8, e, r1, r2⟩ := X1 h_; exact ⟨B7, b7, B8, b8, e, R_of_heap r1 gz (by decide) F8.2.1, R_of_heap r2 gz (by decide) F8.2.1⟩), fun _ => ⟨B2, b2, B3, b3, B4, b4, B5, b5, B6, b6, rfl, o.heap gz (by decide) (by decide) F8.2.1⟩, fun h_ => ⟨(X4 h_).1, fun h2 => absurd ((hon 6 (by kernel_rfl)).symm.trans h2) (by decide)⟩, fun _ => ⟨hg5, fun h0_ => absurd ((up_self b 7).symm.trans h0_) (by decide)⟩, fun h_ => (by obtain ⟨l, e, h⟩ := X6 h_; exact ⟨l, e, (F8.2.1 _ (fun e2 => by rw [e2, gz] at h; simp at h)).trans h⟩), fun _ => ⟨_, rfl, F8.1⟩⟩
    exact steps_nil
  rintro b a w5 hall ⟨m0, m1, m2, m3, g4, g5, ha, hB, X0, X2, X1, X3, X4, X5, X6, X7⟩
  have hb0_ := hall 0 (by kernel_rfl)
  have hb1_ := hall 1 (by kernel_rfl)
  have hb2_ := hall 2 (by kernel_rfl)
  have hb3_ := hall 3 (by kernel_rfl)
  have hb4_ := hall 4 (by kernel_rfl)
  have hb5_ := hall 5 (by kernel_rfl)
  have hb6_ := hall 6 (by kernel_rfl)
  have hb7_ := hall 7 (by kernel_rfl)
  subst ha
  obtain ⟨B7, b7, B8, b8, rfl, r1, r2⟩ := X1 hb1_
  obtain ⟨B2, b2, B3, b3, B4, b4, B5, b5, B6, b6, rfl, o⟩ := X3 hb3_
  obtain ⟨_, e4, hI4⟩ := X6 hb6_
  cases e4
  obtain ⟨_, e5, hQ5⟩ := X7 hb7_
  cases e5
  have hg4 := (X4 hb4_).1
  have hg5 := (X5 hb5_).1
  have e0 := X0 hb0_
  have e2 := X2 hb2_
  subst e0
  subst e2
  have hQ := o.reads
  obtain ⟨_, _, e7, k7, D7⟩ := Kd.R_reads r1
  obtain ⟨_, _, e8, k8, D8⟩ := Kd.R_reads r2
  cases e7
  cases e8
  have hI := ShtR.mk D7 k7 D8 k8
  simp only [putSel, hb0_, hb1_, hb2_, hb3_, hb4_, hb5_, hb6_, hb7_, if_true, Act.put, List.setIfInBounds_toArray, List.set_cons_zero, List.set_cons_succ]
  clear X0 X1 X2 X3 X4 X5 X6 X7 hall hb0_ hb1_ hb2_ hb3_ hb4_ hb5_ hb6_ hb7_ r1 r2 o D7 D8 k7 k8 hx
  obtain ⟨tc, ts, ta, td, er, hr⟩ : ∃ tc ts ta td er, doOf title H W bl ri be cells clues sc ss at_ dn kind cell text = (tc, ts, ta, td, er) := ⟨_, _, _, _, _, rfl⟩
  have hln := Lib.hid (doOf_len hr hsl)
  replace hr := Lib.hid hr
  have te : (er != er) = false := by simp
  have p5 := cells8 hB.p
  have s5 := cells4 hB.s
  have a5 := cells3 hB.a
  have i5 := cells4 hI4
  have j5 := cells8 hQ5
  go_wp2_with (first | (go_at_call 7; go_must (refine (sheet_Do.calls (tabs_below hT hB.b) hQ hI hz hzs hzt).mono ?_; rintro e w6 hD; obtain ⟨v0, v1, rfl, r3, r4, hb6⟩ := hD.opened hr.out; clear hD; obtain ⟨C0, k0, rfl⟩ := Kd.R_slice r3; obtain ⟨C1, k1, rfl⟩ := Kd.R_slice r4; have p6 := cells8 (hB.below hb6).p; have s6 := cells4 (hB.below hb6).s; have a6 := cells3 (hB.below hb6).a; have i6 := cells4 (blk_below hI4 hb6); have j6 := cells8 (blk_below hQ5 hb6); have y61 := blk_lt (hB.below hb6).p; have y62 := blk_lt (hB.below hb6).s; have y63 := blk_lt (hB.below hb6).a; have y64 := blk_lt (blk_below hI4 hb6); have y65 := blk_lt (blk_below hQ5 hb6); replace hb6 := Lib.hid hb6; replace r3 := Lib.hid r3; replace r4 := Lib.hid r4; clear p5 s5 a5 i5 j5)))
  have bT := Lib.hid (blk_new w6 (.cells #[.slice C0 tc.length k0, .slice C1 ts.length k1, .int .i64 ta, .bool td] 29))
  have hb7 := Lib.hid (below_alloc hb6.out (.cells #[.slice C0 tc.length k0, .slice C1 ts.length k1, .int .i64 ta, .bool td] 29))
  have r37 := Lib.hid (Kd.R_alloc r3.out (.cells #[.slice C0 tc.length k0, .slice C1 ts.length k1, .int .i64 ta, .bool td] 29))
  have r47 := Lib.hid (Kd.R_alloc r4.out (.cells #[.slice C0 tc.length k0, .slice C1 ts.length k1, .int .i64 ta, .bool td] 29))
  generalize w6.alloc (.cells #[.slice C0 tc.length k0, .slice C1 ts.length k1, .int .i64 ta, .bool td] 29) = w7 at bT hb7 r37 r47 ⊢
  generalize w6.heap.size = bt at bT ⊢
  clear p6 s6 a6 i6 j6 y61 y62 y63 y64 y65 hb6 r3 r4
  have p7 := cells8 (hB.below hb7.out).p
  have s7 := cells4 (hB.below hb7.out).s
  have a7 := cells3 (hB.below hb7.out).a
  have i7 := cells4 (blk_below hI4 hb7.out)
  have j7 := cells8 (blk_below hQ5 hb7.out)
  have t7 := cells4 bT.out
  go_wp2_with (first | (go_at_call 8; go_must (refine (rebusref23_Do.calls (hP.below (hB.below hb7.out).b) (hS.below (hB.below hb7.out).b) hz hzs hzt).mono ?_; rintro e w8 hD; obtain ⟨v2, v3, rfl, r5, r6, hb8⟩ := hD.opened hr.out; clear hD; obtain ⟨C2, k2, rfl⟩ := Kd.R_slice r5; obtain ⟨C3, k3, rfl⟩ := Kd.R_slice r6; have hb9 := below_step hb7.out hb8; have p8 := cells8 (hB.below hb9).p; have s8 := cells4 (hB.below hb9).s; have a8 := cells3 (hB.below hb9).a; have i8 := cells4 (blk_below hI4 hb9); have j8 := cells8 (blk_below hQ5 hb9); have y81 := blk_lt (hB.below hb9).p; have y82 := blk_lt (hB.below hb9).s; have y83 := blk_lt (hB.below hb9).a; have y84 := blk_lt (blk_below hI4 hb9); have y85 := blk_lt (blk_below hQ5 hb9); have bT8 := Lib.hid (blk_below bT.out hb8); have t8 := cells4 bT8.out; have y8t := blk_lt bT8.out; have r38 := Lib.hid (Kd.R_below r37.out hb8); have r48 := Lib.hid (Kd.R_below r47.out hb8); replace hb9 := Lib.hid hb9; replace r5 := Lib.hid r5; replace r6 := Lib.hid r6; clear hb8 p7 s7 a7 i7 j7 t7)))
  have bUa := Lib.hid (blk_new w8 (.cells #[.slice C2 tc.length k2, .slice C3 ts.length k3, .int .i64 ta, .bool td] 29))
  have hba := Lib.hid (below_alloc hb9.out (.cells #[.slice C2 tc.length k2, .slice C3 ts.length k3, .int .i64 ta, .bool td] 29))
  have bTa := Lib.hid (blk_alloc bT8.out (.cells #[.slice C2 tc.length k2, .slice C3 ts.length k3, .int .i64 ta, .bool td] 29))
  have r39 := Lib.hid (Kd.R_alloc r38.out (.cells #[.slice C2 tc.length k2, .slice C3 ts.length k3, .int .i64 ta, .bool td] 29))
  have r49 := Lib.hid (Kd.R_alloc r48.out (.cells #[.slice C2 tc.length k2, .slice C3 ts.length k3, .int .i64 ta, .bool td] 29))
  have r59 := Lib.hid (Kd.R_alloc r5.out (.cells #[.slice C2 tc.length k2, .slice C3 ts.length k3, .int .i64 ta, .bool td] 29))
  have r69 := Lib.hid (Kd.R_alloc r6.out (.cells #[.slice C2 tc.length k2, .slice C3 ts.length k3, .int .i64 ta, .bool td] 29))
  generalize w8.alloc (.cells #[.slice C2 tc.length k2, .slice C3 ts.length k3, .int .i64 ta, .bool td] 29) = w9 at bUa hba bTa r39 r49 r59 r69 ⊢
  generalize w8.heap.size = bu at bUa ⊢
  clear p8 s8 a8 i8 j8 y81 y82 y83 y84 y85 y8t t8 hb9 r38 r48 r5 r6 bT8
  have hst : ShtR C0 k0 tc C1 k1 ts w9 := ⟨(Kd.R_reads' r39.out).2.2, (Kd.R_reads' r39.out).2.1, (Kd.R_reads' r49.out).2.2, (Kd.R_reads' r49.out).2.1⟩
  have hsu : ShtR C2 k2 tc C3 k3 ts w9 := ⟨(Kd.R_reads' r59.out).2.2, (Kd.R_reads' r59.out).2.1, (Kd.R_reads' r69.out).2.2, (Kd.R_reads' r69.out).2.1⟩
  clear r59 r69
  have rXa := r39
  have rYa := r49
  clear r39 r49
  have pa := cells8 (hB.below hba.out).p
  have sa := cells4 (hB.below hba.out).s
  have aa := cells3 (hB.below hba.out).a
  have ia := cells4 (blk_below hI4 hba.out)
  have ja := cells8 (blk_below hQ5 hba.out)
  have tta := cells4 bTa.out
  have uua := cells4 bUa.out
  have tok1 : True := trivial
  have tok2 : True := trivial
  have tok3 : True := trivial
  go_wp2_with (first
    | (go_at_call 9; have tq := tok1; go_must (clear tq tok1; refine (rebusref23_Same.calls hln.out.2 (by have := hln.out; omega) hst hsu).mono ?_; rintro e w10 ⟨rfl, hbx⟩; have hbb := Lib.hid (below_step hba.out hbx); have bTb := Lib.hid (blk_below bTa.out hbx); have bUb := Lib.hid (blk_below bUa.out hbx); have rXb := Lib.hid (Kd.R_below rXa.out hbx); have rYb := Lib.hid (Kd.R_below rYa.out hbx); have pb := cells8 (hB.below hbb.out).p; have sb := cells4 (hB.below hbb.out).s; have ab := cells3 (hB.below hbb.out).a; have ib := cells4 (blk_below hI4 hbb.out); have jb := cells8 (blk_below hQ5 hbb.out); have ttb := cells4 bTb.out; have uub := cells4 bUb.out; clear pa sa aa ia ja tta uua; clear hbx))
    | (go_at_call 9; have tq := tok2; go_must (clear tq tok2; refine (rebusref23_Same.calls hsl hsm (hI.below hbb.out) (hS.below (hB.below hbb.out).b)).mono ?_; rintro e w11 ⟨rfl, hbx⟩; have hbc := Lib.hid (below_step hbb.out hbx); have bTc := Lib.hid (blk_below bTb.out hbx); have bUc := Lib.hid (blk_below bUb.out hbx); have rXc := Lib.hid (Kd.R_below rXb.out hbx); have rYc := Lib.hid (Kd.R_below rYb.out hbx); have pc := cells8 (hB.below hbc.out).p; have sc := cells4 (hB.below hbc.out).s; have ac := cells3 (hB.below hbc.out).a; have ic := cells4 (blk_below hI4 hbc.out); have jc := cells8 (blk_below hQ5 hbc.out); have ttc := cells4 bTc.out; have uuc := cells4 bUc.out; clear pb sb ab ib jb ttb uub; clear hbx))
    | (go_at_call 10; have tq := tok3; go_must (clear tq tok3; refine (rebusref21_Same.calls hG hz (hQ.below hbc.out) (hP.below (hB.below hbc.out).b)).mono ?_; rintro e w12 ⟨rfl, hbx⟩; have hbd := Lib.hid (below_step hbc.out hbx); have bTd := Lib.hid (blk_below bTc.out hbx); have bUd := Lib.hid (blk_below bUc.out hbx); have rXd := Lib.hid (Kd.R_below rXc.out hbx); have rYd := Lib.hid (Kd.R_below rYc.out hbx); have pd := cells8 (hB.below hbd.out).p; have sd := cells4 (hB.below hbd.out).s; have ad := cells3 (hB.below hbd.out).a; have id := cells4 (blk_below hI4 hbd.out); have jd := cells8 (blk_below hQ5 hbd.out); have ttd := cells4 bTd.out; have uud := cells4 bUd.out; clear pc sc ac ic jc ttc uuc; clear hbx)))
  go_loopw [58] (fun v58 wr => ∃ (i : Nat) (q : Int) (xs : List ByteArray) (bs : List Bool), v58 = .int .i64 q ∧ Hid (q = i ∧ i ≤ tc.length) ∧ Hid (Rows2 w5 wr bt #[.slice C0 tc.length k0, .slice C1 ts.length k1, .int .i64 ta, .bool td] C0 C1 tc.length ts.length k0 k1 xs bs)) (fun v58 _ => tc.length - (intOf v58).toNat)
  case atStart => exact ⟨0, 0, tc, ts, rfl, Lib.hid ⟨rfl, Nat.zero_le _⟩, Lib.hid ⟨rXd.out, rYd.out, bTd.out, hbd.out, rfl, rfl⟩⟩
  case round =>
    clear rXd rYd bTd bUd hbd ttd uud pd sd ad id jd
    obtain ⟨i, q, xs, bs, rfl, hq, hR⟩ := hrel
    by_cases hlt : i < tc.length
    · have hq0 : 0 ≤ q := by have := hq.out; omega
      have hq1 : q < (tc.length : Int) := by have := hq.out; omega
      have hq2 : q < (ts.length : Int) := by have := hq.out; have := hln.out; omega
      have hq3 : q < 1048576 := by have := hln.out; omega
      obtain ⟨g0, _, eX⟩ := R_form_n hR.out.x (n := tc.length) hR.out.n (by omega)
      obtain ⟨g1, _, eY⟩ := R_form_n hR.out.y (n := ts.length) hR.out.m (by omega)
      cases eX
      cases eY
      have tt := cells4 hR.out.t
      replace hlt := Lib.hid hlt
      go_wp2
      have U := hR.out.drew
      obtain ⟨bv, hbv⟩ : ∃ b, rdOf false bs q = b := ⟨_, rfl⟩
      have z0 := (U.spotB q hq0 hq2).1
      rw [hbv] at z0
      refine start_ (n := 16) (S := fun w' => w'.cell? ⟨bt, 0, none⟩ = some (.slice (some ⟨g0, 0, none⟩) tc.length k0) ∧ w'.cell? ⟨bt, 1, none⟩ = some (.slice (some ⟨g1, 0, none⟩) ts.length k1) ∧ w'.cell? ⟨bt, 2, none⟩ = some (.int .i64 ta) ∧ w'.cell? ⟨bt, 3, none⟩ = some (.bool td)) (ds := []) #[false, false, false, false, false, false, false, false, false, false, false, false, false, false, false, false] (by kernel_rfl) rfl rfl (cells4 U.t) (fun hHeld => ?_)
      clear tt
      generalize wr.drew = w7 at U z0 hHeld ⊢
      refine pure_ (i := 0) (N := some 61) (v := ?_) (a' := ?_) #[true, false, false, false, false, false, false, false, false, false, false, false, false, false, false, false] rfl rfl (by kernel_rfl) (fun _ _ _ h => h) (Or.inl ⟨by rfl, ?_⟩) ?_ ?_
      rotate_left
      · intro w'; go_simp; try with_reducible rfl
      rotate_left
      · simp only [Act.put, List.setIfInBounds_toArray, List.set_cons_zero, List.set_cons_succ, i64_w, i32_w]; rfl
      refine pure_ (i := 2) (N := some 63) (v := ?_) (a' := ?_) #[true, false, true, false, false, false, false, false, false, false, false, false, false, false, false, false] rfl rfl (by kernel_rfl) (fun _ _ _ h => h) (Or.inl ⟨by rfl, ?_⟩) ?_ ?_
      rotate_left
      · intro w'; go_simp; try with_reducible rfl
      rotate_left
      · simp only [Act.put, List.setIfInBounds_toArray, List.set_cons_zero, List.set_cons_succ, i64_w, i32_w]; rfl
      refine pure_ (i := 3) (N := some 64) (v := ?_) (a' := ?_) #[true, false, true, true, false, false, false, false, false, false, false, false, false, false, false, false] rfl rfl (by kernel_rfl) (fun _ _ _ h => h) (Or.inl ⟨by rfl, ?_⟩) ?_ ?_
      rotate_left
      · intro w'; go_simp; try with_reducible rfl
      rotate_left
      · simp only [Act.put, List.setIfInBounds_toArray, List.set_cons_zero, List.set_cons_succ, i64_w, i32_w]; rfl
      refine pure_ (i := 5) (N := some 66) (v := ?_) (a' := ?_) #[true, false, true, true, false, true, false, false, false, false, false, false, false, false, false, false] rfl rfl (by kernel_rfl) (fun _ _ _ h => h) (Or.inl ⟨by rfl, ?_⟩) ?_ ?_
      rotate_left
      · intro w'; go_simp; try with_reducible rfl
      rotate_left
      · simp only [Act.put, List.setIfInBounds_toArray, List.set_cons_zero, List.set_cons_succ, i64_w, i32_w]; rfl
      refine pure_ (i := 6) (N := some 67) (v := ?_) (a' := ?_) #[true, false, true, true, false, true, true, false, false, false, false, false, false, false, false, false] rfl rfl (by kernel_rfl) (fun _ _ _ h => h) (Or.inl ⟨by rfl, ?_⟩) ?_ ?_
      rotate_left
      · intro w'; go_simp; try with_reducible rfl
      rotate_left
      · simp only [Act.put, List.setIfInBounds_toArray, List.set_cons_zero, List.set_cons_succ, i64_w, i32_w]; rfl
      refine pure_ (i := 8) (N := some 69) (v := ?_) (a' := ?_) #[true, false, true, true, false, true, true, false, true, false, false, false, false, false, false, false] rfl rfl (by kernel_rfl) (fun _ _ _ h => h) (Or.inl ⟨by rfl, ?_⟩) ?_ ?_
      rotate_left
      · intro w'; go_simp; try with_reducible rfl
      rotate_left
      · simp only [Act.put, List.setIfInBounds_toArray, List.set_cons_zero, List.set_cons_succ, i64_w, i32_w]; rfl
      refine take_ (i := 1) (N := some 62) (v := ?_) (a' := ?_) #[true, true, true, true, false, true, true, false, true, false, false, false, false, false, false, false] rfl rfl (by kernel_rfl) (fun _ _ _ h => h) (Or.inl ⟨by rfl, ?_⟩) hHeld ?_ ?_
      rotate_left
      · intro w' s0; (try dsimp only at s0); go_simp; try with_reducible rfl
      rotate_left
      · simp only [Act.put, List.setIfInBounds_toArray, List.set_cons_zero, List.set_cons_succ, i64_w, i32_w]; rfl
      refine take_ (i := 4) (N := some 65) (v := ?_) (a' := ?_) #[true, true, true, true, true, true, true, false, true, false, false, false, false, false, false, false] rfl rfl (by kernel_rfl) (fun _ _ _ h => h) (Or.inl ⟨by rfl, ?_⟩) hHeld ?_ ?_
      rotate_left
      · intro w' s0; (try dsimp only at s0); go_simp; try with_reducible rfl
      rotate_left
      · simp only [Act.put, List.setIfInBounds_toArray, List.set_cons_zero, List.set_cons_succ, i64_w, i32_w]; rfl
      refine take_ (i := 7) (N := some 68) (v := ?_) (a' := ?_) #[true, true, true, true, true, true, true, true, true, false, false, false, false, false, false, false] rfl rfl (by kernel_rfl) (fun _ _ _ h => h) (Or.inl ⟨by rfl, ?_⟩) hHeld ?_ ?_
      rotate_left
      · intro w' s0; (try dsimp only at s0); go_simp; try with_reducible rfl
      rotate_left
      · simp only [Act.put, List.setIfInBounds_toArray, List.set_cons_zero, List.set_cons_succ, i64_w, i32_w]; rfl
      refine pure_ (i := 9) (N := some 70) (v := ?_) (a' := ?_) #[true, true, true, true, true, true, true, true, true, true, false, false, false, false, false, false] rfl rfl (by kernel_rfl) (fun _ _ _ h => h) (Or.inl ⟨by rfl, ?_⟩) ?_ ?_
      rotate_left
      · intro w'; go_simp; try with_reducible rfl
      rotate_left
      · simp only [Act.put, List.setIfInBounds_toArray, List.set_cons_zero, List.set_cons_succ, i64_w, i32_w]; rfl
      refine one_ (i := 10) (N := some 71) #[true, true, true, true, true, true, true, true, true, true, true, false, false, false, false, false] rfl rfl (by kernel_rfl) (by decide) (fun K hK => ?_)
      refine value_ (w1 := w7) (v := .bool bv) (by rfl) rfl (by first | (go_simp; done) | (go_simp; rfl)) ?_
      refine hK.out _ _ (cells4 U.t) (fun hHeld => ?_)
      clear hK K
      refine norm_ (a' := ?_) ?_ ?_
      rotate_left
      · show Act.put _ (some 71) _ = _
        simp only [Act.put, List.setIfInBounds_toArray, List.set_cons_zero, List.set_cons_succ, i64_w, i32_w]
        rfl
      refine pure_ (i := 11) (N := some 72) (v := ?_) (a' := ?_) #[true, true, true, true, true, true, true, true, true, true, true, true, false, false, false, false] rfl rfl (by kernel_rfl) (fun _ _ _ h => h) (Or.inl ⟨by rfl, ?_⟩) ?_ ?_
      rotate_left
      · intro w'; go_simp; try with_reducible rfl
      rotate_left
      · simp only [Act.put, List.setIfInBounds_toArray, List.set_cons_zero, List.set_cons_succ, i64_w, i32_w]; rfl
      refine pure_ (i := 12) (N := some 73) (v := ?_) (a' := ?_) #[true, true, true, true, true, true, true, true, true, true, true, true, true, false, false, false] rfl rfl (by kernel_rfl) (fun _ _ _ h => h) (Or.inl ⟨by rfl, ?_⟩) ?_ ?_
      rotate_left
      · intro w'; go_simp; try with_reducible rfl
      rotate_left
      · simp only [Act.put, List.setIfInBounds_toArray, List.set_cons_zero, List.set_cons_succ, i64_w, i32_w]; rfl
      have sp0 := U.spotX q hq0 hq1
      have V6 := U.setX q ⟨#[63]⟩
      refine one_ (i := 13) (N := none) #[true, true, true, true, true, true, true, true, true, true, true, true, true, true, false, false] rfl rfl (by kernel_rfl) (by decide) (fun K hK => ?_)
      refine skip_ (w1 := w7.setCell ⟨g0, q.toNat, none⟩ (.string ⟨#[63]⟩)) (by rfl) rfl (by first | (go_simp; done) | (go_simp; rfl)) ?_
      generalize w7.setCell ⟨g0, q.toNat, none⟩ (.string ⟨#[63]⟩) = w8 at V6 ⊢
      have sp1 := V6.spotB q hq0 hq2
      refine hK.out _ _ (cells4 V6.t) (fun hHeld => ?_)
      clear hK K sp0
      refine pure_ (i := 14) (N := some 74) (v := ?_) (a' := ?_) #[true, true, true, true, true, true, true, true, true, true, true, true, true, true, true, false] rfl rfl (by kernel_rfl) (fun _ _ _ h => h) (Or.inl ⟨by rfl, ?_⟩) ?_ ?_
      rotate_left
      · intro w'; go_simp; try with_reducible rfl
      rotate_left
      · simp only [Act.put, List.setIfInBounds_toArray, List.set_cons_zero, List.set_cons_succ, i64_w, i32_w]; rfl
      have T7 := V6.setB q (!bv)
      refine one_ (i := 15) (N := none) #[true, true, true, true, true, true, true, true, true, true, true, true, true, true, true, true] rfl rfl (by kernel_rfl) (by decide) (fun K hK => ?_)
      have t8 := cells4 V6.t
      refine skip_ (w1 := w8.setCell ⟨g1, q.toNat, none⟩ (.bool (!bv))) (by rfl) rfl (by first | (go_simp; done) | (go_simp; rfl)) ?_
      generalize w8.setCell ⟨g1, q.toNat, none⟩ (.bool (!bv)) = w9 at T7 ⊢
      refine hK.out _ _ (cells4 T7.t) (fun hHeld => ?_)
      clear hK K sp1 t8
      refine done_ (by kernel_rfl) ?_
      clear V6 U z0 hHeld
      replace T7 := Lib.hid T7
      go_wp2
      refine ⟨⟨i + 1, q + 1, _, _, rfl, Lib.hid ⟨by have := hq.out; omega, hlt.out⟩, T7⟩, ?_⟩
      simp only [intOf]; have := hq.out; have := hlt.out; omega
    · have hge : ¬ q < (tc.length : Int) := by have := hq.out; omega
      have hbr := Lib.hid hR.out.b
      have px1 := cells8 (hB.below hbr.out).p
      have sx1 := cells4 (hB.below hbr.out).s
      have ax1 := cells3 (hB.below hbr.out).a
      have ix1 := cells4 (blk_below hI4 hbr.out)
      have jx1 := cells8 (blk_below hQ5 hbr.out)
      have tok4 : True := trivial
      have tok5 : True := trivial
      go_wp2_with (first
        | (go_at_call 9; have tq := tok4; go_must (clear tq tok4; refine (rebusref23_Same.calls hsl hsm (hI.below hbr.out) (hS.below (hB.below hbr.out).b)).mono ?_; rintro e w14 ⟨rfl, hbx⟩; have hbs := Lib.hid (below_step hbr.out hbx); have px2 := cells8 (hB.below hbs.out).p; have sx2 := cells4 (hB.below hbs.out).s; have ax2 := cells3 (hB.below hbs.out).a; have ix2 := cells4 (blk_below hI4 hbs.out); have jx2 := cells8 (blk_below hQ5 hbs.out); clear hbx px1 sx1 ax1 ix1 jx1))
        | (go_at_call 10; have tq := tok5; go_must (clear tq tok5; refine (rebusref21_Same.calls hG hz (hQ.below hbs.out) (hP.below (hB.below hbs.out).b)).mono ?_; rintro e w15 ⟨rfl, hbx⟩; have hbt := Lib.hid (below_step hbs.out hbx); have px3 := cells8 (hB.below hbt.out).p; have sx3 := cells4 (hB.below hbt.out).s; have ax3 := cells3 (hB.below hbt.out).a; have ix3 := cells4 (blk_below hI4 hbt.out); have jx3 := cells8 (blk_below hQ5 hbt.out); clear hbx px2 sx2 ax2 ix2 jx2)))
      go_ret
      exact ⟨rfl, (hB.below hbt.out).b⟩
end Go.Proofs.YtiipailmldbpbaaGreatDoor.Q
end
