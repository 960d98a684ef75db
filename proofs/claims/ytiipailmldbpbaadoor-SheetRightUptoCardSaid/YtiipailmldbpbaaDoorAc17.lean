/- PART 17 OF A PROOF: Lean functions, and that the program computes them; written by hand and by a program. Not trusted: Lean checks it. -/
import Derived.Lib.MapLaws
import Derived.Test.YtiipailmldbpbaaDoorAc2
import Derived.Test.YtiipailmldbpbaaDoorAc3
import Derived.Test.YtiipailmldbpbaaDoorAc14
import Derived.Test.YtiipailmldbpbaaDoorAc16
set_option linter.unusedVariables false
set_option linter.unusedSimpArgs false
section
namespace Go.Proofs.YtiipailmldbpbaaDoor.Q
open Go.RowKit Go.Proofs.YtiipailmldbpbaaDoorW.PrintWords Go.Proofs.YtiipailmldbpbaaDoorW.PrintLast Go.Proofs.YtiipailmldbpbaaDoorW.PrintMore
attribute [local go_sem] max2_int min2_int max_two min_two max_three min_three max_four min_four
set_option linter.unusedVariables false
set_option linter.unusedSimpArgs false
open Go.Proofs.YtiipailmldbpbaaDoorS
def rebuslaw23_two.T1 : Bool × List (List Nat × List Nat) := (true, [([], []), ([], []), ([], []), ([0, 1, 2], [0, 1, 2]), ([], []), ([], []), ([3, 4, 5], [3, 4, 5]), ([6, 0, 1, 2, 3, 4, 5, 6], [6])])
def rebuslaw23_two.B1 : List Nat := [0, 0, 0, 7, 0, 0, 63, 127]
theorem rebuslaw23_two.tab1 : rtab .any (opsOf Tryd.f19 1) = rebuslaw23_two.T1 := by kernel_rfl
theorem rebuslaw23_two.bits1 : waitsOk rebuslaw23_two.T1.2 rebuslaw23_two.B1 = true := by kernel_rfl
def twoRow : List Bool := List.replicate 2 false
def twoCells : List ByteArray := [⟨#[67]⟩, ⟨#[67, 72]⟩]
def twoClues : List ByteArray := [⟨#[]⟩]
set_option maxHeartbeats 8000000 in
set_option maxRecDepth 100000 in
theorem rebuslaw23_two.calls (w : World) :
    Calls Tryd.prog 19 #[] w fun e w' => ∃ v0 v1 v2 v3 v4 : Value, e = .returned (.agg #[.string ⟨#[]⟩, .int .i64 1, .int .i64 2, v0, v1, v2, v3, v4]) ∧ Kd.R Kd.bool 4 w' w.heap.size (fun _ => True) v0 twoRow ∧ Kd.R Kd.bool 4 w' w.heap.size (fun _ => True) v1 twoRow ∧ Kd.R Kd.bool 4 w' w.heap.size (fun _ => True) v2 twoRow ∧ Kd.R Kd.string 9 w' w.heap.size (fun _ => True) v3 twoCells ∧ Kd.R Kd.string 9 w' w.heap.size (fun _ => True) v4 twoClues ∧ Below w.heap.size w w' := by
  have hu27 := Tryd.underlying27
  have hu24 := Tryd.underlying24
  go_enter Tryd.func19, Tryd.ntmps19
  go_wp2
  have BK := blk_drew (blk_new w (.cells #[.string (⟨#[]⟩ : ByteArray), .int .i64 0, .int .i64 0, .slice none 0 0, .slice none 0 0, .slice none 0 0, .slice none 0 0, .slice none 0 0] 27 (0, 0)))
  have HB := below_drew (below_alloc (Below.refl w.heap.size w) (.cells #[.string (⟨#[]⟩ : ByteArray), .int .i64 0, .int .i64 0, .slice none 0 0, .slice none 0 0, .slice none 0 0, .slice none 0 0, .slice none 0 0] 27 (0, 0)))
  obtain ⟨g, hg⟩ : ∃ g, w.heap.size = g := ⟨_, rfl⟩
  refine start_ (n := 8) (S := fun w' => True) (ds := []) #[false, false, false, false, false, false, false, false] (by kernel_rfl) rfl rfl trivial (fun hHeld => ?_)
  refine with_tabW rebuslaw23_two.tab1 rebuslaw23_two.bits1 (fun HT_ HW_ => ?_)
  generalize (w.alloc (.cells #[.string (⟨#[]⟩ : ByteArray), .int .i64 0, .int .i64 0, .slice none 0 0, .slice none 0 0, .slice none 0 0, .slice none 0 0, .slice none 0 0] 27 (0, 0))).drew = w3 at BK HB hHeld ⊢
  rw [hg] at BK HB ⊢
  refine inv_at [0, 1, 2, 3, 4, 5, 6, 7] (fun a0_ b a w' => ∃ v0 v1 v2 v3 v4 m3 m6 : Value, a = putSel a0_ b [(0, 1, v0), (1, 2, v1), (2, 3, v2), (3, 4, m3), (4, 5, v3), (5, 6, v4), (6, 7, m6)] ∧ (b 7 = false → w'.heap[g]? = some (.cells #[.string (⟨#[]⟩ : ByteArray), .int .i64 0, .int .i64 0, .slice none 0 0, .slice none 0 0, .slice none 0 0, .slice none 0 0, .slice none 0 0] 27 (0, 0))) ∧ Below g w w' ∧ (b 0 = true → Kd.R Kd.bool 4 w' g (fun _ => True) v0 twoRow) ∧ (b 1 = true → Kd.R Kd.bool 4 w' g (fun _ => True) v1 twoRow) ∧ (b 2 = true → Kd.R Kd.bool 4 w' g (fun _ => True) v2 twoRow) ∧ (b 4 = true → Kd.R Kd.string 9 w' g (fun _ => True) v3 twoCells) ∧ (b 5 = true → Kd.R Kd.string 9 w' g (fun _ => True) v4 twoClues) ∧ (b 7 = true → w'.heap[g]? = some (.cells #[.string (⟨#[]⟩ : ByteArray), .int .i64 1, .int .i64 2, v0, v1, v2, v3, v4] 27 (0, 0))) ∧ (b 3 = true → m3 = .agg #[.int .i64 1, .int .i64 2, v0, v1, v2]) ∧ (b 6 = true → m6 = .agg #[.string (⟨#[]⟩ : ByteArray), .int .i64 1, .int .i64 2, v0, v1, v2, v3, v4])) HT_.out HW_.out (by kernel_rfl) (by kernel_rfl) ?_ ?_ ?_
  · exact ⟨.bool false, .bool false, .bool false, .bool false, .bool false, .bool false, .bool false, by simp only [putSel, Bool.false_eq_true, if_false], fun _ => BK, HB, fun h_ => absurd h_ (by decide), fun h_ => absurd h_ (by decide), fun h_ => absurd h_ (by decide), fun h_ => absurd h_ (by decide), fun h_ => absurd h_ (by decide), fun h_ => absurd h_ (by decide), fun h_ => absurd h_ (by decide), fun h_ => absurd h_ (by decide)⟩
  · clear BK HB
    refine steps_cons ?_ ?_
    · rintro b a w' ⟨v0, v1, v2, v3, v4, m3, m6, ha, QB, QH, R0, R1, R2, R3, R4, QF, X3, X6⟩ hb_ hon hoff
      refine ⟨_, rfl, fun K hK => ?_⟩
      have hsz : g ≤ w'.heap.size := by rw [← hg]; exact QH.size
      have hB := QB (hoff 7 (by kernel_rfl))
      refine Kd.R_make_step Kd.bool _ 4 (by rfl) (N := 1) rfl 22 _ _ rfl 2 rfl rfl Tryd.underlying22 (.bool false) 1 bool_info rfl (by decide) (by decide) false (ok := fun _ => True) (okp := fun _ => True) rfl (fun _ hk => hk) trivial (by decide) (by decide) (Below.refl _ _) (Nat.le_refl _) ?_
      intro v0 w4 ho hb _ _
      refine hK.out _ _ ⟨v0, v1, v2, v3, v4, m3, m6, (by rw [ha]; exact putSel_upk 0 hb_ rfl rfl rfl), fun _ => blk_below hB hb, QH.trans (hb.mono hsz), fun _ => Kd.R_lower ho hsz, fun h_ => Kd.R_below (R1 h_) hb, fun h_ => Kd.R_below (R2 h_) hb, fun h_ => Kd.R_below (R3 h_) hb, fun h_ => Kd.R_below (R4 h_) hb, fun h_ => absurd ((hoff 7 (by kernel_rfl)).symm.trans h_) (by decide), fun h_ => absurd ((hoff 3 (by kernel_rfl)).symm.trans h_) (by decide), fun h_ => absurd ((hoff 6 (by kernel_rfl)).symm.trans h_) (by decide)⟩
    refine steps_cons ?_ ?_
    · rintro b a w' ⟨v0, v1, v2, v3, v4, m3, m6, ha, QB, QH, R0, R1, R2, R3, R4, QF, X3, X6⟩ hb_ hon hoff
      refine ⟨_, rfl, fun K hK => ?_⟩
      have hsz : g ≤ w'.heap.size := by rw [← hg]; exact QH.size
      have hB := QB (hoff 7 (by kernel_rfl))
      refine Kd.R_make_step Kd.bool _ 4 (by rfl) (N := 2) rfl 22 _ _ rfl 2 rfl rfl Tryd.underlying22 (.bool false) 1 bool_info rfl (by decide) (by decide) false (ok := fun _ => True) (okp := fun _ => True) rfl (fun _ hk => hk) trivial (by decide) (by decide) (Below.refl _ _) (Nat.le_refl _) ?_
      intro v1 w4 ho hb _ _
      refine hK.out _ _ ⟨v0, v1, v2, v3, v4, m3, m6, (by rw [ha]; exact putSel_upk 1 hb_ rfl rfl rfl), fun _ => blk_below hB hb, QH.trans (hb.mono hsz), fun h_ => Kd.R_below (R0 h_) hb, fun _ => Kd.R_lower ho hsz, fun h_ => Kd.R_below (R2 h_) hb, fun h_ => Kd.R_below (R3 h_) hb, fun h_ => Kd.R_below (R4 h_) hb, fun h_ => absurd ((hoff 7 (by kernel_rfl)).symm.trans h_) (by decide), fun h_ => absurd ((hoff 3 (by kernel_rfl)).symm.trans h_) (by decide), fun h_ => absurd ((hoff 6 (by kernel_rfl)).symm.trans h_) (by decide)⟩
    refine steps_cons ?_ ?_
    · rintro b a w' ⟨v0, v1, v2, v3, v4, m3, m6, ha, QB, QH, R0, R1, R2, R3, R4, QF, X3, X6⟩ hb_ hon hoff
      refine ⟨_, rfl, fun K hK => ?_⟩
      have hsz : g ≤ w'.heap.size := by rw [← hg]; exact QH.size
      have hB := QB (hoff 7 (by kernel_rfl))
      refine Kd.R_make_step Kd.bool _ 4 (by rfl) (N := 3) rfl 22 _ _ rfl 2 rfl rfl Tryd.underlying22 (.bool false) 1 bool_info rfl (by decide) (by decide) false (ok := fun _ => True) (okp := fun _ => True) rfl (fun _ hk => hk) trivial (by decide) (by decide) (Below.refl _ _) (Nat.le_refl _) ?_
      intro v2 w4 ho hb _ _
      refine hK.out _ _ ⟨v0, v1, v2, v3, v4, m3, m6, (by rw [ha]; exact putSel_upk 2 hb_ rfl rfl rfl), fun _ => blk_below hB hb, QH.trans (hb.mono hsz), fun h_ => Kd.R_below (R0 h_) hb, fun h_ => Kd.R_below (R1 h_) hb, fun _ => Kd.R_lower ho hsz, fun h_ => Kd.R_below (R3 h_) hb, fun h_ => Kd.R_below (R4 h_) hb, fun h_ => absurd ((hoff 7 (by kernel_rfl)).symm.trans h_) (by decide), fun h_ => absurd ((hoff 3 (by kernel_rfl)).symm.trans h_) (by decide), fun h_ => absurd ((hoff 6 (by kernel_rfl)).symm.trans h_) (by decide)⟩
    refine steps_cons ?_ ?_
    · rintro b a w' ⟨v0, v1, v2, v3, v4, m3, m6, ha, QB, QH, R0, R1, R2, R3, R4, QF, X3, X6⟩ hb_ hon hoff
      refine ⟨_, rfl, fun K hK => ?_⟩
      have hsz : g ≤ w'.heap.size := by rw [← hg]; exact QH.size
      have e1 : a.tmps[1]? = some v0 := by rw [ha]; exact putSel_on (e := (0, 1, v0)) 0 rfl rfl (hon 0 (by kernel_rfl)) rfl
      have e2 : a.tmps[2]? = some v1 := by rw [ha]; exact putSel_on (e := (1, 2, v1)) 1 rfl rfl (hon 1 (by kernel_rfl)) rfl
      have e3 : a.tmps[3]? = some v2 := by rw [ha]; exact putSel_on (e := (2, 3, v2)) 2 rfl rfl (hon 2 (by kernel_rfl)) rfl
      replace ha := Aside0.mk ha
      obtain ⟨A0, n0, c0, rfl⟩ := R_slice3 (R0 (hon 0 (by kernel_rfl)))
      obtain ⟨A1, n1, c1, rfl⟩ := R_slice3 (R1 (hon 1 (by kernel_rfl)))
      obtain ⟨A2, n2, c2, rfl⟩ := R_slice3 (R2 (hon 2 (by kernel_rfl)))
      refine value_ (w1 := w') (v := .agg #[.int .i64 1, .int .i64 2, .slice A0 n0 c0, .slice A1 n1 c1, .slice A2 n2 c2]) (by rfl) rfl ?_ ?_
      · go_simp
        (try simp only [i64_w])
        try rfl
      exact hK.out _ _ ⟨.slice A0 n0 c0, .slice A1 n1 c1, .slice A2 n2 c2, v3, v4, (.agg #[.int .i64 1, .int .i64 2, .slice A0 n0 c0, .slice A1 n1 c1, .slice A2 n2 c2]), m6, (by rw [ha.out]; exact putSel_upk 3 hb_ rfl rfl rfl), QB, QH, R0, R1, R2, R3, R4, fun h_ => absurd ((hoff 7 (by kernel_rfl)).symm.trans h_) (by decide), fun _ => rfl, fun h_ => absurd ((hoff 6 (by kernel_rfl)).symm.trans h_) (by decide)⟩
    refine steps_cons ?_ ?_
    · rintro b a w' ⟨v0, v1, v2, v3, v4, m3, m6, ha, QB, QH, R0, R1, R2, R3, R4, QF, X3, X6⟩ hb_ hon hoff
      refine ⟨_, rfl, fun K hK => ?_⟩
      have hsz : g ≤ w'.heap.size := by rw [← hg]; exact QH.size
      have hB := QB (hoff 7 (by kernel_rfl))
      refine Kd.R_lit_step Kd.string _ 9 ?hg (N := 5) ?hd (xs := ([(⟨#[67]⟩ : ByteArray), (⟨#[67, 72]⟩ : ByteArray)] : List ByteArray)) (inner := [.string (⟨#[67]⟩ : ByteArray), .string (⟨#[67, 72]⟩ : ByteArray)]) (ok := fun _ => True) (okp := fun _ => True) ?hr ?hp (fun _ hk => hk) trivial (Below.refl _ _) (Nat.le_refl _) (by simp) ?_; (case hd => rfl); (case hg => rfl); (case hr => first | (go_simp; done) | (go_simp; rfl)); (case hp => exact (Reps.one (show Kd.M Kd.string _ _ _ (⟨#[67]⟩ : ByteArray) [.string (⟨#[67]⟩ : ByteArray)] from rfl) (Reps.one (show Kd.M Kd.string _ _ _ (⟨#[67, 72]⟩ : ByteArray) [.string (⟨#[67, 72]⟩ : ByteArray)] from rfl) (Reps.none _ _))))
      intro v3 w4 ho hb _ _
      refine hK.out _ _ ⟨v0, v1, v2, v3, v4, m3, m6, (by rw [ha]; exact putSel_upk 4 hb_ rfl rfl rfl), fun _ => blk_below hB hb, QH.trans (hb.mono hsz), fun h_ => Kd.R_below (R0 h_) hb, fun h_ => Kd.R_below (R1 h_) hb, fun h_ => Kd.R_below (R2 h_) hb, fun _ => Kd.R_lower ho hsz, fun h_ => Kd.R_below (R4 h_) hb, fun h_ => absurd ((hoff 7 (by kernel_rfl)).symm.trans h_) (by decide), fun h_ => X3 h_, fun h_ => absurd ((hoff 6 (by kernel_rfl)).symm.trans h_) (by decide)⟩
    refine steps_cons ?_ ?_
    · rintro b a w' ⟨v0, v1, v2, v3, v4, m3, m6, ha, QB, QH, R0, R1, R2, R3, R4, QF, X3, X6⟩ hb_ hon hoff
      refine ⟨_, rfl, fun K hK => ?_⟩
      have hsz : g ≤ w'.heap.size := by rw [← hg]; exact QH.size
      have hB := QB (hoff 7 (by kernel_rfl))
      refine Kd.R_lit_step Kd.string _ 9 ?hg (N := 6) ?hd (xs := ([(⟨#[]⟩ : ByteArray)] : List ByteArray)) (inner := [.string (⟨#[]⟩ : ByteArray)]) (ok := fun _ => True) (okp := fun _ => True) ?hr ?hp (fun _ hk => hk) trivial (Below.refl _ _) (Nat.le_refl _) (by simp) ?_; (case hd => rfl); (case hg => rfl); (case hr => first | (go_simp; done) | (go_simp; rfl)); (case hp => exact (Reps.one (show Kd.M Kd.string _ _ _ (⟨#[]⟩ : ByteArray) [.string (⟨#[]⟩ : ByteArray)] from rfl) (Reps.none _ _)))
      intro v4 w4 ho hb _ _
      refine hK.out _ _ ⟨v0, v1, v2, v3, v4, m3, m6, (by rw [ha]; exact putSel_upk 5 hb_ rfl rfl rfl), fun _ => blk_below hB hb, QH.trans (hb.mono hsz), fun h_ => Kd.R_below (R0 h_) hb, fun h_ => Kd.R_below (R1 h_) hb, fun h_ => Kd.R_below (R2 h_) hb, fun h_ => Kd.R_below (R3 h_) hb, fun _ => Kd.R_lower ho hsz, fun h_ => absurd ((hoff 7 (by kernel_rfl)).symm.trans h_) (by decide), fun h_ => X3 h_, fun h_ => absurd ((hoff 6 (by kernel_rfl)).symm.trans h_) (by decide)⟩
    refine steps_cons ?_ ?_
    · rintro b a w' ⟨v0, v1, v2, v3, v4, m3, m6, ha, QB, QH, R0, R1, R2, R3, R4, QF, X3, X6⟩ hb_ hon hoff
      refine ⟨_, rfl, fun K hK => ?_⟩
      have hsz : g ≤ w'.heap.size := by rw [← hg]; exact QH.size
      have e4 : a.tmps[4]? = some m3 := by rw [ha]; exact putSel_on (e := (3, 4, m3)) 3 rfl rfl (hon 3 (by kernel_rfl)) rfl
      rw [X3 (hon 3 (by kernel_rfl))] at e4
      have e5 : a.tmps[5]? = some v3 := by rw [ha]; exact putSel_on (e := (4, 5, v3)) 4 rfl rfl (hon 4 (by kernel_rfl)) rfl
      have e6 : a.tmps[6]? = some v4 := by rw [ha]; exact putSel_on (e := (5, 6, v4)) 5 rfl rfl (hon 5 (by kernel_rfl)) rfl
      replace ha := Aside0.mk ha
      obtain ⟨A0, n0, c0, rfl⟩ := R_slice3 (R0 (hon 0 (by kernel_rfl)))
      obtain ⟨A1, n1, c1, rfl⟩ := R_slice3 (R1 (hon 1 (by kernel_rfl)))
      obtain ⟨A2, n2, c2, rfl⟩ := R_slice3 (R2 (hon 2 (by kernel_rfl)))
      obtain ⟨A3, n3, c3, rfl⟩ := R_slice3 (R3 (hon 4 (by kernel_rfl)))
      obtain ⟨A4, n4, c4, rfl⟩ := R_slice3 (R4 (hon 5 (by kernel_rfl)))
      refine value_ (w1 := w') (v := .agg #[.string (⟨#[]⟩ : ByteArray), .int .i64 1, .int .i64 2, .slice A0 n0 c0, .slice A1 n1 c1, .slice A2 n2 c2, .slice A3 n3 c3, .slice A4 n4 c4]) (by rfl) rfl ?_ ?_
      · go_simp
        (try simp only [i64_w])
        try rfl
      exact hK.out _ _ ⟨.slice A0 n0 c0, .slice A1 n1 c1, .slice A2 n2 c2, .slice A3 n3 c3, .slice A4 n4 c4, m3, (.agg #[.string (⟨#[]⟩ : ByteArray), .int .i64 1, .int .i64 2, .slice A0 n0 c0, .slice A1 n1 c1, .slice A2 n2 c2, .slice A3 n3 c3, .slice A4 n4 c4]), (by rw [ha.out]; exact putSel_upk 6 hb_ rfl rfl rfl), QB, QH, R0, R1, R2, R3, R4, fun h_ => absurd ((hoff 7 (by kernel_rfl)).symm.trans h_) (by decide), X3, fun _ => rfl⟩
    refine steps_cons ?_ ?_
    · rintro b a w' ⟨v0, v1, v2, v3, v4, m3, m6, ha, QB, QH, R0, R1, R2, R3, R4, QF, X3, X6⟩ hb_ hon hoff
      refine ⟨_, rfl, fun K hK => ?_⟩
      have hsz : g ≤ w'.heap.size := by rw [← hg]; exact QH.size
      have e0 : a.tmps[0]? = some (.pointer (some ⟨g, 0, none⟩)) := by rw [ha]; exact (putSel_off rfl).trans rfl
      have e7 : a.tmps[7]? = some m6 := by rw [ha]; exact putSel_on (e := (6, 7, m6)) 6 rfl rfl (hon 6 (by kernel_rfl)) rfl
      rw [X6 (hon 6 (by kernel_rfl))] at e7
      replace ha := Aside0.mk ha
      have hB := QB hb_
      obtain ⟨A0, n0, c0, rfl⟩ := R_slice3 (R0 (hon 0 (by kernel_rfl)))
      obtain ⟨A1, n1, c1, rfl⟩ := R_slice3 (R1 (hon 1 (by kernel_rfl)))
      obtain ⟨A2, n2, c2, rfl⟩ := R_slice3 (R2 (hon 2 (by kernel_rfl)))
      obtain ⟨A3, n3, c3, rfl⟩ := R_slice3 (R3 (hon 4 (by kernel_rfl)))
      obtain ⟨A4, n4, c4, rfl⟩ := R_slice3 (R4 (hon 5 (by kernel_rfl)))
      obtain ⟨s0, s1, s2, s3, s4, s5, s6, s7⟩ := cells8 hB
      have f0 := blk_frozen hB 0
      have f1 := blk_frozen hB 1
      have f2 := blk_frozen hB 2
      have f3 := blk_frozen hB 3
      have f4 := blk_frozen hB 4
      have f5 := blk_frozen hB 5
      have f6 := blk_frozen hB 6
      have f7 := blk_frozen hB 7
      obtain ⟨p1, p2, p3⟩ := put8_facts hB (.string (⟨#[]⟩ : ByteArray)) (.int .i64 1) (.int .i64 2) (.slice A0 n0 c0) (.slice A1 n1 c1) (.slice A2 n2 c2) (.slice A3 n3 c3) (.slice A4 n4 c4)
      replace hB := Aside0.mk hB
      refine skip_ (w1 := put8 w' g (.string (⟨#[]⟩ : ByteArray)) (.int .i64 1) (.int .i64 2) (.slice A0 n0 c0) (.slice A1 n1 c1) (.slice A2 n2 c2) (.slice A3 n3 c3) (.slice A4 n4 c4)) (by rfl) rfl ?_ ?_
      · clear p1 p2 p3
        go_simp
        rfl
      exact hK.out _ _ ⟨.slice A0 n0 c0, .slice A1 n1 c1, .slice A2 n2 c2, .slice A3 n3 c3, .slice A4 n4 c4, m3, m6, (by rw [ha.out]; exact putSel_none (v := undef) rfl), fun h0_ => absurd ((up_self b 7).symm.trans h0_) (by decide), p3 _ _ QH (Nat.le_refl _), fun h_ => R_of_heap (R0 h_) hB.out (by decide) p2, fun h_ => R_of_heap (R1 h_) hB.out (by decide) p2, fun h_ => R_of_heap (R2 h_) hB.out (by decide) p2, fun h_ => R_of_heap (R3 h_) hB.out (by decide) p2, fun h_ => R_of_heap (R4 h_) hB.out (by decide) p2, fun _ => p1, X3, X6⟩
    exact steps_nil
  rintro b a w' hall ⟨v0, v1, v2, v3, v4, m3, m6, ha, QB, QH, R0, R1, R2, R3, R4, QF, X3, X6⟩
  have hb0_ := hall 0 (by kernel_rfl)
  have hb1_ := hall 1 (by kernel_rfl)
  have hb2_ := hall 2 (by kernel_rfl)
  have hb3_ := hall 3 (by kernel_rfl)
  have hb4_ := hall 4 (by kernel_rfl)
  have hb5_ := hall 5 (by kernel_rfl)
  have hb6_ := hall 6 (by kernel_rfl)
  have hb7_ := hall 7 (by kernel_rfl)
  subst ha
  have hF := Aside0.mk (QF hb7_)
  have R0' := Aside0.mk (R0 hb0_)
  have R1' := Aside0.mk (R1 hb1_)
  have R2' := Aside0.mk (R2 hb2_)
  have R3' := Aside0.mk (R3 hb4_)
  have R4' := Aside0.mk (R4 hb5_)
  have QH' := Aside0.mk QH
  simp only [putSel, hb0_, hb1_, hb2_, hb3_, hb4_, hb5_, hb6_, if_true, Act.put, List.setIfInBounds_toArray, List.set_cons_zero, List.set_cons_succ]
  clear QB QF R0 R1 R2 R3 R4 X3 X6 QH hall hb0_ hb1_ hb2_ hb3_ hb4_ hb5_ hb6_ hb7_ BK HB
  go_wp2
  subst hg
  refine bodyPost_ret (results_cell_row rfl _ _ w.heap.size 27 #[.string (⟨#[]⟩ : ByteArray), .int .i64 1, .int .i64 2, v0, v1, v2, v3, v4] (0, 0) _ rfl hF.out Tryd.underlying27 rfl (by kernel_rfl)) rfl ?_
  exact ⟨_, _, _, _, _, rfl, R0'.out, R1'.out, R2'.out, R3'.out, R4'.out, QH'.out⟩
end Go.Proofs.YtiipailmldbpbaaDoor.Q
end
section
namespace Go.Proofs.YtiipailmldbpbaaDoor.Q
open Go.RowKit Go.Proofs.YtiipailmldbpbaaDoorW.PrintWords Go.Proofs.YtiipailmldbpbaaDoorW.PrintLast Go.Proofs.YtiipailmldbpbaaDoorW.PrintMore
set_option linter.unusedVariables false
open Go.Proofs.YtiipailmldbpbaaDoorS
def slacks (cells sc : List ByteArray) : Nat → Nat → Bool
  | 0, _ => false
  | d + 1, i => (!(rdOf ByteArray.empty cells (i : Int)).toList.isEmpty && !decide ((rdOf ByteArray.empty sc (i : Int)).toList = (rdOf ByteArray.empty cells (i : Int)).toList)) || slacks cells sc d (i + 1)
theorem sheet_Done_l0_eq (cells sc : List ByteArray) (ss : List Bool) (at_ : Int) (dn : Bool) (hl : cells.length ≤ 1048576) (hb : sc.length = cells.length) :
    ∀ (d i k : Nat), i + d = cells.length → d < k → sheet_Done.l0 k cells (cells.length : Int) (i : Int) sc ss at_ dn = some (!slacks cells sc d i) := by
  intro d
  induction d with
  | zero =>
    intro i k hi hk
    obtain ⟨k, rfl⟩ : ∃ m, k = m + 1 := ⟨k - 1, by omega⟩
    simp only [sheet_Done.l0]
    rw [if_neg (by omega)]
    rfl
  | succ d ih =>
    intro i k hi hk
    obtain ⟨k, rfl⟩ : ∃ m, k = m + 1 := ⟨k - 1, by omega⟩
    have hih := ih (i + 1) k (by omega) (by omega)
    simp only [sheet_Done.l0]
    rw [if_pos (by omega), if_pos (by omega), if_pos (by omega), w64 (by omega) (by omega)]
    simp only [slacks]
    by_cases h0 : (rdOf ByteArray.empty cells (i : Int)).toList = ([] : List UInt8)
    · rw [if_pos h0, h0]
      simpa using hih
    · rw [if_neg h0, toList_nil.2 h0, if_pos (by omega)]
      by_cases h1 : (rdOf ByteArray.empty sc (i : Int)).toList = (rdOf ByteArray.empty cells (i : Int)).toList
      · rw [if_pos h1, decide_eq_true h1]
        simpa using hih
      · rw [if_neg h1, decide_eq_false h1]
        simp
def sdone (title : ByteArray) (H W : Int) (bl ri be : List Bool) (cells clues sc : List ByteArray) (ss : List Bool) (at_ : Int) : Bool := decide (scheck title H W bl ri be cells clues sc ss at_ = 0) && !slacks cells sc cells.length 0
theorem sheet_Done_eq (title : ByteArray) (H W : Int) (bl ri be : List Bool) (cells clues sc : List ByteArray) (ss : List Bool) (at_ : Int) (dn : Bool) (ht : title.size ≤ 1048576) (hs : Small cells) (hc : Small clues) (hsc : Small sc) (hl : cells.length ≤ 1048576) (hm : clues.length ≤ 1048576) (k : Nat) (hk : 2 * bl.length + cells.length + sc.length + clues.length + 12 ≤ k) :
    sheet_Done.f k title H W bl ri be cells clues sc ss at_ dn = some (sdone title H W bl ri be cells clues sc ss at_) := by
  unfold sheet_Done.f sdone
  rw [sheet_Check_eq _ _ _ _ _ _ _ _ _ _ _ _ ht hs hc hsc hl hm _ hk]
  simp only [Option.bind_some]
  by_cases h : scheck title H W bl ri be cells clues sc ss at_ = 0
  · rw [if_pos h, decide_eq_true h, Bool.true_and]
    exact sheet_Done_l0_eq cells sc ss at_ dn hl (scheck_ok h).2.1 cells.length 0 k (by omega) (by omega)
  · rw [if_neg h, decide_eq_false h]
    rfl
def twoT : List ByteArray := [⟨#[67]⟩, ⟨#[]⟩]
theorem awake_start : sstart ⟨#[]⟩ 1 2 twoRow twoRow twoRow twoCells twoClues = (List.replicate 2 ⟨#[]⟩, List.replicate 2 false, 0, false, 0) := by decide +kernel
theorem awake_do1 : doOf ⟨#[]⟩ 1 2 twoRow twoRow twoRow twoCells twoClues (List.replicate 2 ⟨#[]⟩) (List.replicate 2 false) 0 false 1 0 ⟨#[99]⟩ = (twoT, [true, false], 1, false, 0) := by decide +kernel
theorem awake_do2 : doOf ⟨#[]⟩ 1 2 twoRow twoRow twoRow twoCells twoClues twoT [true, false] 1 false 1 0 ⟨#[99, 104]⟩ = (twoCells, [true, true], 1, false, 0) := by decide +kernel
theorem awake_done1 : sdone ⟨#[]⟩ 1 2 twoRow twoRow twoRow twoCells twoClues twoCells [true, true] 1 = true := by decide +kernel
theorem awake_done2 : sdone ⟨#[]⟩ 1 2 twoRow twoRow twoRow twoCells twoClues twoT [true, false] 1 = false := by decide +kernel
theorem DoPost.opened {w w' : World} {r : List ByteArray × List Bool × Int × Bool × Int} {e : Ending} {l : List ByteArray} {b : List Bool} {i er : Int} {dn : Bool} (h : DoPost w r e w') (hr : r = (l, b, i, dn, er)) : ∃ v0 v1, e = .returned (.tuple #[.agg #[v0, v1, .int .i64 i, .bool dn], .int .i64 er]) ∧ Kd.R Kd.string 9 w' w.heap.size (fun _ => True) v0 l ∧ Kd.R Kd.bool 4 w' w.heap.size (fun _ => True) v1 b ∧ Below w.heap.size w w' := by
  subst hr
  exact h
theorem small_of {l : List ByteArray} (h : l.all (fun s => decide (s.size ≤ 1048576)) = true) : Small l := fun s hs => of_decide_eq_true (List.all_eq_true.1 h s hs)
theorem two_s : PuzS ⟨#[]⟩ twoCells twoClues := ⟨by decide, small_of (by decide +kernel), small_of (by decide +kernel), by decide, by decide⟩
set_option maxHeartbeats 8000000 in
set_option maxRecDepth 1000000 in
theorem rebuslaw23_awake.calls (w : World) (hT : Tabs w) :
    Calls Tryd.prog 7 #[] w fun e w' => e = .returned (.bool true) ∧ Below w.heap.size w w' := by
  have hu27 := Tryd.underlying27
  have hu30 := Tryd.underlying30
  have hu36 := Tryd.underlying36
  have e1 := Lib.hid (sheet_Start_eq ⟨#[]⟩ 1 2 twoRow twoRow twoRow twoCells twoClues two_s.t two_s.s two_s.c two_s.l two_s.m 100 (by decide))
  have d1 := Lib.hid awake_do1
  have d2 := Lib.hid awake_do2
  have n1 := Lib.hid (sheet_Done_eq ⟨#[]⟩ 1 2 twoRow twoRow twoRow twoCells twoClues twoCells [true, true] 1 false two_s.t two_s.s two_s.c (small_of (by decide +kernel)) two_s.l two_s.m 100 (by decide))
  have n2 := Lib.hid (sheet_Done_eq ⟨#[]⟩ 1 2 twoRow twoRow twoRow twoCells twoClues twoT [true, false] 1 false two_s.t two_s.s two_s.c (small_of (by decide +kernel)) two_s.l two_s.m 100 (by decide))
  obtain ⟨l0, hl0⟩ : ∃ l : List ByteArray, l = List.replicate 2 ⟨#[]⟩ := ⟨_, rfl⟩
  obtain ⟨b0, hb0⟩ : ∃ l : List Bool, l = List.replicate 2 false := ⟨_, rfl⟩
  obtain ⟨b1, hb1⟩ : ∃ l : List Bool, l = [true, false] := ⟨_, rfl⟩
  obtain ⟨b2, hb2⟩ : ∃ l : List Bool, l = [true, true] := ⟨_, rfl⟩
  have hs0 : Small l0 := by rw [hl0]; exact small_of (by decide +kernel)
  have hs1 : Small twoT := small_of (by decide +kernel)
  rw [awake_start, ← hl0, ← hb0] at e1
  rw [← hl0, ← hb0, ← hb1] at d1
  rw [← hb1, ← hb2] at d2
  rw [awake_done1, ← hb2] at n1
  rw [awake_done2, ← hb1] at n2
  clear hl0 hb0 hb1 hb2
  have tok1 : True := trivial
  have tok2 : True := trivial
  have tok3 : True := trivial
  have tok4 : True := trivial
  go_enter Tryd.func7, Tryd.ntmps7
  go_wp2_with (first
    | (go_at_call 19; go_must (refine (rebuslaw23_two.calls _).mono ?_; rintro e w1 ⟨v0, v1, v2, v3, v4, rfl, r0, r1, r2, r3, r4, hB1⟩; obtain ⟨A0, c0, rfl, k0, C0⟩ := Kd.R_reads r0; obtain ⟨A1, c1, rfl, k1, C1⟩ := Kd.R_reads r1; obtain ⟨A2, c2, rfl, k2, C2⟩ := Kd.R_reads r2; obtain ⟨A3, c3, rfl, k3, C3⟩ := Kd.R_reads r3; obtain ⟨A4, c4, rfl, k4, C4⟩ := Kd.R_reads r4; have hP1 := Lib.hid (PuzR.mk C0 k0 C1 k1 C2 k2 C3 k3 C4 k4); clear r0 r1 r2 r3 r4 C0 C1 C2 C3 C4 k0 k1 k2 k3 k4; replace hB1 := Lib.hid hB1))
    | (go_at_call 8; go_must (have hPa := hP1.out.below (box1 w1 (.cells #[.string (⟨#[]⟩ : ByteArray), .int .i64 1, .int .i64 2, .slice A0 twoRow.length c0, .slice A1 twoRow.length c1, .slice A2 twoRow.length c2, .slice A3 twoCells.length c3, .slice A4 twoClues.length c4] 27)).2; have hTa := tabs_below hT (below_alloc hB1.out (.cells #[.string (⟨#[]⟩ : ByteArray), .int .i64 1, .int .i64 2, .slice A0 twoRow.length c0, .slice A1 twoRow.length c1, .slice A2 twoRow.length c2, .slice A3 twoCells.length c3, .slice A4 twoClues.length c4] 27)); refine (sheet_Start.calls 100 _ _ _ _ _ _ _ _ _ _ _ _ _ _ _ _ _ _ _ _ _ _ _ _ hPa.r2 hPa.k2 hPa.r3 hPa.k3 hPa.r4 hPa.k4 hPa.r5 hPa.k5 hPa.r6 hPa.k6 hTa e1.out).mono ?_; clear hPa hTa; rintro e w2 ⟨v5, v6, rfl, r5, r6, hB2⟩; obtain ⟨A5, c5, rfl, k5, C5⟩ := Kd.R_reads r5; obtain ⟨A6, c6, rfl, k6, C6⟩ := Kd.R_reads r6; have hS2 := Lib.hid (ShtR.mk C5 k5 C6 k6); have bP2 := Lib.hid (blk_below (box1 w1 (.cells #[.string (⟨#[]⟩ : ByteArray), .int .i64 1, .int .i64 2, .slice A0 twoRow.length c0, .slice A1 twoRow.length c1, .slice A2 twoRow.length c2, .slice A3 twoCells.length c3, .slice A4 twoClues.length c4] 27)).1 hB2); have hP2 := Lib.hid (hP1.out.below (below_step (box1 w1 (.cells #[.string (⟨#[]⟩ : ByteArray), .int .i64 1, .int .i64 2, .slice A0 twoRow.length c0, .slice A1 twoRow.length c1, .slice A2 twoRow.length c2, .slice A3 twoCells.length c3, .slice A4 twoClues.length c4] 27)).2 hB2)); replace hB2 := Lib.hid (below_step (below_alloc hB1.out (.cells #[.string (⟨#[]⟩ : ByteArray), .int .i64 1, .int .i64 2, .slice A0 twoRow.length c0, .slice A1 twoRow.length c1, .slice A2 twoRow.length c2, .slice A3 twoCells.length c3, .slice A4 twoClues.length c4] 27)) hB2); have p2 := cells8 bP2.out; have z2 := blk_lt bP2.out; clear r5 r6 C5 C6 k5 k6))
    | (go_at_call 9; have tq := tok1; go_must (clear tq tok1; have hPa := hP2.out.below (box1 w2 (.cells #[.slice A5 l0.length c5, .slice A6 b0.length c6, .int .i64 0, .bool false] 30)).2; have hSa := hS2.out.below (box1 w2 (.cells #[.slice A5 l0.length c5, .slice A6 b0.length c6, .int .i64 0, .bool false] 30)).2; have hTa := tabs_below hT (below_alloc hB2.out (.cells #[.slice A5 l0.length c5, .slice A6 b0.length c6, .int .i64 0, .bool false] 30)); refine (sheet_Do.calls hTa hPa hSa two_s hs0 (by decide)).mono ?_; clear hPa hSa hTa; rintro e w3 hD; obtain ⟨v7, v8, rfl, rA, rB, hBn⟩ := hD.opened d1.out; clear hD; obtain ⟨A7, c7, rfl, kA, CA⟩ := Kd.R_reads rA; obtain ⟨A8, c8, rfl, kB, CB⟩ := Kd.R_reads rB; have hS3 := Lib.hid (ShtR.mk CA kA CB kB); have bS3 := Lib.hid (blk_below (box1 w2 (.cells #[.slice A5 l0.length c5, .slice A6 b0.length c6, .int .i64 0, .bool false] 30)).1 hBn); have hBx := below_step (box1 w2 (.cells #[.slice A5 l0.length c5, .slice A6 b0.length c6, .int .i64 0, .bool false] 30)).2 hBn; have hP3 := Lib.hid (hP2.out.below hBx); have bP3 := Lib.hid (blk_below bP2.out hBx); skip; have hB3 := Lib.hid (below_step hB2.out hBx); have p3 := cells8 bP3.out; have q3 := cells4 bS3.out; have z3 := blk_lt bS3.out; have y3 := blk_lt bP3.out; clear rA rB CA CB kA kB hBn hBx p2))
    | (go_at_call 9; have tq := tok2; go_must (clear tq tok2; have hPa := hP3.out.below (box1 w3 (.cells #[.slice A7 twoT.length c7, .slice A8 b1.length c8, .int .i64 1, .bool false] 30)).2; have hSa := hS3.out.below (box1 w3 (.cells #[.slice A7 twoT.length c7, .slice A8 b1.length c8, .int .i64 1, .bool false] 30)).2; have hTa := tabs_below hT (below_alloc hB3.out (.cells #[.slice A7 twoT.length c7, .slice A8 b1.length c8, .int .i64 1, .bool false] 30)); refine (sheet_Do.calls hTa hPa hSa two_s hs1 (by decide)).mono ?_; clear hPa hSa hTa; rintro e w4 hD; obtain ⟨v9, va, rfl, rA, rB, hBn⟩ := hD.opened d2.out; clear hD; obtain ⟨A9, c9, rfl, kA, CA⟩ := Kd.R_reads rA; obtain ⟨Aa, ca, rfl, kB, CB⟩ := Kd.R_reads rB; have hS4 := Lib.hid (ShtR.mk CA kA CB kB); have bS4 := Lib.hid (blk_below (box1 w3 (.cells #[.slice A7 twoT.length c7, .slice A8 b1.length c8, .int .i64 1, .bool false] 30)).1 hBn); have hBx := below_step (box1 w3 (.cells #[.slice A7 twoT.length c7, .slice A8 b1.length c8, .int .i64 1, .bool false] 30)).2 hBn; have hP4 := Lib.hid (hP3.out.below hBx); have hBy := Lib.hid hBx; have bP4 := Lib.hid (blk_below bP3.out hBx); skip; have hB4 := Lib.hid (below_step hB3.out hBx); have p4 := cells8 bP4.out; have q4 := cells4 bS4.out; have z4 := blk_lt bS4.out; have y4 := blk_lt bP4.out; clear rA rB CA CB kA kB hBn hBx p3))
    | (go_at_call 10; have tq := tok3; go_must (clear tq tok3; have hPa := hP4.out.below (box1 w4 (.cells #[.slice A9 twoCells.length c9, .slice Aa b2.length ca, .int .i64 1, .bool false] 30)).2; have hSa := hS4.out.below (box1 w4 (.cells #[.slice A9 twoCells.length c9, .slice Aa b2.length ca, .int .i64 1, .bool false] 30)).2; have hTa := tabs_below hT (below_alloc hB4.out (.cells #[.slice A9 twoCells.length c9, .slice Aa b2.length ca, .int .i64 1, .bool false] 30)); refine (sheet_Done.calls 100 _ _ _ _ _ _ _ _ _ _ _ _ _ _ _ _ _ _ _ _ _ _ _ _ _ _ _ _ hPa.r2 hPa.k2 hPa.r3 hPa.k3 hPa.r4 hPa.k4 hPa.r5 hPa.k5 hPa.r6 hPa.k6 hSa.r7 hSa.k7 hSa.r8 hSa.k8 hTa n1.out).mono ?_; clear hPa hSa hTa; rintro e w5 ⟨rfl, hb5⟩; have hBx := below_step (box1 w4 (.cells #[.slice A9 twoCells.length c9, .slice Aa b2.length ca, .int .i64 1, .bool false] 30)).2 hb5; have bP5 := blk_below bP4.out hBx; have bS5 := blk_below bS4.out hBx; have hP5 := Lib.hid (hP4.out.below hBx); have hS5 := Lib.hid ((hS3.out.below hBy.out).below hBx); have hB5 := Lib.hid (below_step hB4.out hBx); have p5 := cells8 bP5; have q5 := cells4 bS5; clear hb5 hBx bP5 bS5 p4 q4))
    | (go_at_call 10; have tq := tok4; go_must (clear tq tok4; refine (sheet_Done.calls 100 _ _ _ _ _ _ _ _ _ _ _ _ _ _ _ _ _ _ _ _ _ _ _ _ _ _ _ _ hP5.out.r2 hP5.out.k2 hP5.out.r3 hP5.out.k3 hP5.out.r4 hP5.out.k4 hP5.out.r5 hP5.out.k5 hP5.out.r6 hP5.out.k6 hS5.out.r7 hS5.out.k7 hS5.out.r8 hS5.out.k8 (tabs_below hT hB5.out) n2.out).mono ?_; rintro e w6 ⟨rfl, hb6⟩))
    )
  go_ret
  exact ⟨rfl, below_step hB5.out hb6⟩
end Go.Proofs.YtiipailmldbpbaaDoor.Q
end
section
namespace Go.Proofs.YtiipailmldbpbaaDoorS
open Go Go.Lib
set_option linter.unusedVariables false
set_option linter.unusedSimpArgs false
theorem nat_byte (z : Nat) (x : Int) (h : x = (z : Int)) : x.toNat.toUInt8 = UInt8.ofNat z := by subst h; simp
set_option maxRecDepth 1000000 in
theorem enc_eq (r : Int) (h : Utf8.valid r = true) : (Utf8.encode r).data.toList = encodeRune r := by
  have hv : (0 ≤ r ∧ r < 55296) ∨ (57344 ≤ r ∧ r ≤ 1114111) := by
    simpa [Utf8.valid] using h
  obtain ⟨n, rfl⟩ : ∃ n : Nat, r = (n : Int) := ⟨r.toNat, by omega⟩
  unfold Utf8.encode
  rw [h]
  simp only [if_true, Int.toNat_natCast]
  by_cases h1 : n < 128
  · rw [if_pos h1]
    unfold encodeRune
    rw [encodeRuneZ_one (by omega) (by omega)]
    simp
  · rw [if_neg h1]
    by_cases h2 : n < 2048
    · rw [if_pos h2]
      unfold encodeRune
      rw [encodeRuneZ_two (by omega) (by omega)]
      simp only [List.map_cons, List.map_nil]
      rw [nat_byte (192 + n / 64) _ (by omega), nat_byte (128 + n % 64) _ (by omega)]
    · rw [if_neg h2]
      by_cases h3 : n < 65536
      · rw [if_pos h3]
        unfold encodeRune
        rw [encodeRuneZ_three (by omega)]
        simp only [List.map_cons, List.map_nil]
        rw [nat_byte (224 + n / 4096) _ (by omega), nat_byte (128 + n / 64 % 64) _ (by omega), nat_byte (128 + n % 64) _ (by omega)]
      · rw [if_neg h3]
        unfold encodeRune
        rw [encodeRuneZ_four (by omega) (by omega)]
        simp only [List.map_cons, List.map_nil]
        rw [nat_byte (240 + n / 262144) _ (by omega), nat_byte (128 + n / 4096 % 64) _ (by omega), nat_byte (128 + n / 64 % 64) _ (by omega), nat_byte (128 + n % 64) _ (by omega)]
theorem enc_ne (r : Int) : (Utf8.encode r).data.toList ≠ [] := by
  unfold Utf8.encode
  dsimp only
  generalize (if Utf8.valid r = true then r.toNat else Utf8.runeError) = c
  by_cases h1 : c < 128
  · rw [if_pos h1]; exact List.cons_ne_nil _ _
  · rw [if_neg h1]
    by_cases h2 : c < 2048
    · rw [if_pos h2]; exact List.cons_ne_nil _ _
    · rw [if_neg h2]
      by_cases h3 : c < 65536
      · rw [if_pos h3]; exact List.cons_ne_nil _ _
      · rw [if_neg h3]; exact List.cons_ne_nil _ _
set_option maxRecDepth 1000000 in
theorem dec_enc (n : Nat) (h : Utf8.valid (n : Int) = true) (t : List UInt8) : decodeL ((Utf8.encode (n : Int)).data.toList ++ t) = (n, (Utf8.encode (n : Int)).data.toList.length) := by
  have hv : n < 55296 ∨ (57344 ≤ n ∧ n ≤ 1114111) := by
    have : (0 ≤ (n : Int) ∧ (n : Int) < 55296) ∨ (57344 ≤ (n : Int) ∧ (n : Int) ≤ 1114111) := by simpa [Utf8.valid] using h
    omega
  rw [decodeL_N]
  unfold Utf8.encode
  rw [h]
  simp only [if_true, Int.toNat_natCast]
  by_cases h1 : n < 128
  · rw [if_pos h1]
    simp only [List.cons_append, List.nil_append, List.getD_cons_zero, List.length_cons, List.length_nil, UInt8.toNat_ofNat']
    rw [Nat.mod_eq_of_lt (by omega), decodeN_ascii _ _ _ _ _ h1]
  · rw [if_neg h1]
    by_cases h2 : n < 2048
    · rw [if_pos h2]
      simp only [List.cons_append, List.nil_append, List.getD_cons_zero, List.getD_cons_succ, List.length_cons, List.length_nil, UInt8.toNat_ofNat']
      rw [Nat.mod_eq_of_lt (show 192 + n / 64 < 2 ^ 8 by omega), Nat.mod_eq_of_lt (show 128 + n % 64 < 2 ^ 8 by omega)]
      unfold decodeN
      rw [if_neg (by omega), if_pos (by omega), if_pos (by omega)]
      simp only [Prod.mk.injEq, and_true]
      omega
    · rw [if_neg h2]
      by_cases h3 : n < 65536
      · rw [if_pos h3]
        simp only [List.cons_append, List.nil_append, List.getD_cons_zero, List.getD_cons_succ, List.length_cons, List.length_nil, UInt8.toNat_ofNat']
        rw [Nat.mod_eq_of_lt (show 224 + n / 4096 < 2 ^ 8 by omega), Nat.mod_eq_of_lt (show 128 + n / 64 % 64 < 2 ^ 8 by omega), Nat.mod_eq_of_lt (show 128 + n % 64 < 2 ^ 8 by omega)]
        unfold decodeN
        rw [if_neg (by omega), if_neg (by omega), if_pos (by omega), if_pos (by omega)]
        simp only [Prod.mk.injEq, and_true]
        omega
      · rw [if_neg h3]
        simp only [List.cons_append, List.nil_append, List.getD_cons_zero, List.getD_cons_succ, List.length_cons, List.length_nil, UInt8.toNat_ofNat']
        rw [Nat.mod_eq_of_lt (show 240 + n / 262144 < 2 ^ 8 by omega), Nat.mod_eq_of_lt (show 128 + n / 4096 % 64 < 2 ^ 8 by omega), Nat.mod_eq_of_lt (show 128 + n / 64 % 64 < 2 ^ 8 by omega), Nat.mod_eq_of_lt (show 128 + n % 64 < 2 ^ 8 by omega)]
        unfold decodeN
        rw [if_neg (by omega), if_neg (by omega), if_neg (by omega), if_pos (by omega), if_pos (by omega)]
        simp only [Prod.mk.injEq, and_true]
        omega
def uL : Nat → List UInt8 → List (Nat × Nat)
  | 0, _ => []
  | f + 1, l => if l = [] then [] else decodeL l :: uL f (l.drop (decodeL l).2)
theorem uL_nil (f : Nat) : uL f [] = [] := by cases f <;> simp [uL]
theorem uL_fuel : ∀ (f g : Nat) (l : List UInt8), l.length ≤ f → l.length ≤ g → uL f l = uL g l
  | 0, g, l, hf, _ => by
    obtain rfl : l = [] := List.eq_nil_of_length_eq_zero (by omega)
    rw [uL_nil, uL_nil]
  | f + 1, 0, l, _, hg => by
    obtain rfl : l = [] := List.eq_nil_of_length_eq_zero (by omega)
    rw [uL_nil, uL_nil]
  | f + 1, g + 1, l, hf, hg => by
    by_cases hne : l = []
    · subst hne; rw [uL_nil, uL_nil]
    · have hw := decodeL_width l
      have hl : 0 < l.length := List.length_pos_iff.2 hne
      simp only [uL, if_neg hne]
      rw [uL_fuel f g _ (by rw [List.length_drop]; omega) (by rw [List.length_drop]; omega)]
theorem ulist_L (s : ByteArray) : ∀ (f p : Nat), (ulist s f p).map (fun t => t.2) = uL f (s.data.toList.drop p)
  | 0, p => rfl
  | f + 1, p => by
    have hs : s.size = s.data.toList.length := by rw [Array.length_toList]; rfl
    unfold ulist
    by_cases h : p < s.size
    · have hne : s.data.toList.drop p ≠ [] := by
        intro h0
        have := congrArg List.length h0
        simp only [List.length_drop, List.length_nil] at this
        omega
      rw [if_pos h, List.map_cons, ulist_L s f, uL, if_neg hne, decodeL_drop, List.drop_drop]
    · rw [if_neg h, List.map_nil, List.drop_of_length_le (by omega), uL_nil]
def runesL (l : List UInt8) : List Int := (uL l.length l).map fun t => (t.1 : Int)
theorem urunes_L (s : ByteArray) : urunes s = runesL s.data.toList := by
  have h := ulist_L s s.size 0
  rw [List.drop_zero] at h
  unfold urunes uall runesL
  rw [show s.data.toList.length = s.size by rw [Array.length_toList]; rfl, ← h, List.map_map]
  rfl
theorem runesL_step (l : List UInt8) (hne : l ≠ []) : runesL l = ((decodeL l).1 : Int) :: runesL (l.drop (decodeL l).2) := by
  have hw := decodeL_width l
  have hl : 0 < l.length := List.length_pos_iff.2 hne
  obtain ⟨n, hn⟩ : ∃ n, l.length = n + 1 := ⟨l.length - 1, by omega⟩
  unfold runesL
  rw [hn, uL, if_neg hne, List.map_cons, uL_fuel n (l.drop (decodeL l).2).length _ (by rw [List.length_drop]; omega) (Nat.le_refl _)]
theorem runesL_enc (n : Nat) (h : Utf8.valid (n : Int) = true) (t : List UInt8) : runesL ((Utf8.encode (n : Int)).data.toList ++ t) = (n : Int) :: runesL t := by
  rw [runesL_step _ (by have := enc_ne (n : Int); simp [this]), dec_enc n h t]
  dsimp only
  rw [List.drop_left]
theorem letter_range {r : Int} (h : uclass r = 1) : 65 ≤ r ∧ r ≤ 1119 := by
  unfold uclass at h
  repeat' split at h
  all_goals first | omega | (exact absurd h (by decide))
theorem upper_all : ∀ n : Nat, n < 1120 → uclass (n : Int) = 1 → uclass (uupper (n : Int)) = 1 ∧ uupper (uupper (n : Int)) = uupper (n : Int) := by decide +kernel
theorem upper_letter {r : Int} (h : uclass r = 1) : uclass (uupper r) = 1 ∧ uupper (uupper r) = uupper r := by
  have hr := letter_range h
  obtain ⟨n, rfl⟩ : ∃ n : Nat, r = (n : Int) := ⟨r.toNat, by omega⟩
  exact upper_all n (by omega) h
theorem valid_letter {n : Nat} (h : uclass (n : Int) = 1) : Utf8.valid (n : Int) = true := by
  have hr := letter_range h
  simp [Utf8.valid]
  omega
theorem fold_good : ∀ (f : Nat) (l : List UInt8), l.length ≤ f → (runesL l).all ugood = true → (runesL l).flatMap (upiece false) = l
  | 0, l, hf, _ => by
    obtain rfl : l = [] := List.eq_nil_of_length_eq_zero (by omega)
    rfl
  | f + 1, l, hf, hg => by
    by_cases hne : l = []
    · subst hne; rfl
    · have hw := decodeL_width l
      have hl : 0 < l.length := List.length_pos_iff.2 hne
      rw [runesL_step l hne] at hg ⊢
      rw [List.all_cons, Bool.and_eq_true] at hg
      obtain ⟨h1, h2⟩ := hg
      simp only [ugood, Bool.and_eq_true, beq_iff_eq] at h1
      obtain ⟨h1, h3⟩ := h1
      have hr := letter_range h1
      rw [List.flatMap_cons, fold_good f (l.drop (decodeL l).2) (by rw [List.length_drop]; omega) h2]
      have e : upiece false ((decodeL l).1 : Int) = l.take (decodeL l).2 := by
        unfold upiece
        rw [if_pos h1]
        simp only [Bool.false_eq_true, if_false]
        rw [h3, enc_eq _ (valid_letter h1), encode_decode l hne (by omega)]
      rw [e, List.take_append_drop]
theorem letter_fold {s : ByteArray} (h : uletter s = true) : ufold s false = s := by
  unfold uletter at h
  rw [Bool.and_eq_true] at h
  rw [urunes_L] at h
  have := fold_good _ s.data.toList (Nat.le_refl _) h.1
  unfold ufold
  rw [urunes_L, this]
theorem letter_count {s : ByteArray} (h : uletter s = true) : 1 ≤ ucount s ∧ ucount s ≤ 3 := by
  unfold uletter at h
  rw [Bool.and_eq_true] at h
  exact of_decide_eq_true h.2
theorem runes_fold : ∀ rs : List Int, (∀ r ∈ rs, 0 ≤ r) → runesL (rs.flatMap (upiece false)) = (rs.filter fun r => uclass r == 1).map uupper
  | [], _ => rfl
  | r :: rs, h => by
    have ih := runes_fold rs (fun x hx => h x (List.mem_cons_of_mem _ hx))
    rw [List.flatMap_cons, List.filter_cons]
    by_cases h1 : uclass r = 1
    · have h2 := (upper_letter h1).1
      have hr := letter_range h2
      obtain ⟨n, hn⟩ : ∃ n : Nat, uupper r = (n : Int) := ⟨(uupper r).toNat, by omega⟩
      have e : upiece false r = (Utf8.encode (n : Int)).data.toList := by
        unfold upiece
        rw [if_pos h1]
        simp only [Bool.false_eq_true, if_false]
        rw [hn]
      rw [e, runesL_enc n (valid_letter (by rw [← hn]; exact h2)), ih, if_pos (by simpa using h1), List.map_cons, hn]
    · have e : upiece false r = [] := by unfold upiece; rw [if_neg h1]
      rw [e, List.nil_append, ih, if_neg (by simpa using h1)]
theorem runesL_pos (l : List UInt8) : ∀ r ∈ runesL l, 0 ≤ r := by
  intro r hr
  obtain ⟨t, _, rfl⟩ := List.mem_map.1 hr
  omega
theorem fold_letter (s : ByteArray) (h1 : 1 ≤ ucount (ufold s false)) (h3 : ucount (ufold s false) ≤ 3) : uletter (ufold s false) = true := by
  unfold uletter
  rw [decide_eq_true (⟨h1, h3⟩ : 1 ≤ ucount (ufold s false) ∧ ucount (ufold s false) ≤ 3), Bool.and_true, urunes_L]
  have e : (ufold s false).data.toList = (runesL s.data.toList).flatMap (upiece false) := by unfold ufold; rw [urunes_L]
  rw [e, runes_fold _ (runesL_pos _), List.all_map, List.all_eq_true]
  intro r hr
  have hc : uclass r = 1 := by simpa using (List.mem_filter.1 hr).2
  have := upper_letter hc
  simp [ugood, this]
end Go.Proofs.YtiipailmldbpbaaDoorS
end
section
namespace Go.Proofs.YtiipailmldbpbaaDoor.Q
open Go.RowKit Go.Proofs.YtiipailmldbpbaaDoorW.PrintWords Go.Proofs.YtiipailmldbpbaaDoorW.PrintLast Go.Proofs.YtiipailmldbpbaaDoorW.PrintMore
set_option linter.unusedVariables false
set_option linter.unusedSimpArgs false
open Go.Proofs.YtiipailmldbpbaaDoorS
theorem gcheck_dims {H W : Int} {bl ri be : List Bool} (hc : gcheck H W bl ri be = 0) : 1 ≤ W ∧ (bl.length : Int) = H * W := by
  unfold gcheck at hc
  split at hc
  · cases hc
  · rename_i h1
    split at hc
    · cases hc
    · rename_i h2
      simp only [Bool.not_eq_false, gsides, gsizes, Bool.and_eq_true, decide_eq_true_eq] at h1 h2
      exact ⟨h1.2.1, h2.1⟩
theorem gStep_open {H W : Int} {bl ri be : List Bool} (hc : gcheck H W bl ri be = 0) {i way : Int} (h : (gStep H W bl ri be i way).2 = true) : gopen bl i = true ∧ gopen bl (gStep H W bl ri be i way).1 = true := by
  unfold gStep at h ⊢
  cases ho : gopen bl i with
  | false => rw [ho] at h; cases h
  | true =>
    rw [ho] at h
    simp only [if_true] at h ⊢
    obtain ⟨h1, h2, h3⟩ := gstep_to (gcheck_dims hc).1 (gcheck_dims hc).2 h
    refine ⟨trivial, ?_⟩
    unfold gopen
    rw [h3, decide_eq_true ⟨h1, h2⟩]
    rfl
theorem grun_open {H W : Int} {bl ri be : List Bool} (hc : gcheck H W bl ri be = 0) (way : Int) : ∀ (f : Nat) (i : Int), gopen bl i = true → ∀ c ∈ grun H W bl ri be way f i, gopen bl c = true
  | 0, i, h, c, hm => by
    simp only [grun, List.mem_singleton] at hm
    rw [hm]; exact h
  | f + 1, i, h, c, hm => by
    unfold grun at hm
    cases hs : (gStep H W bl ri be i way).2 with
    | false =>
      rw [hs] at hm
      simp only [Bool.false_eq_true, if_false, List.mem_singleton] at hm
      rw [hm]; exact h
    | true =>
      rw [hs] at hm
      simp only [if_true, List.mem_cons] at hm
      rcases hm with rfl | hm
      · exact h
      · exact grun_open hc way f _ (gStep_open hc hs).2 c hm
theorem gslots_open {H W : Int} {bl ri be : List Bool} (hc : gcheck H W bl ri be = 0) : ∀ (d i : Nat) (num : Int), ∀ x ∈ gslots H W bl ri be d i num, ∀ c ∈ x.2.2, gopen bl c = true := by
  intro d
  induction d with
  | zero => intro i num x hx; simp [gslots] at hx
  | succ d ih =>
    intro i num x hx
    simp only [gslots, List.mem_append] at hx
    rcases hx with (hx | hx) | hx
    · split at hx
      · rename_i hb
        simp only [List.mem_singleton] at hx
        subst hx
        simp only [gbegins, Bool.and_eq_true] at hb
        exact grun_open hc _ _ _ (gStep_open hc hb.2).1
      · simp at hx
    · split at hx
      · rename_i hb
        simp only [List.mem_singleton] at hx
        subst hx
        simp only [gbegins, Bool.and_eq_true] at hb
        exact grun_open hc _ _ _ (gStep_open hc hb.2).1
      · simp at hx
    · exact ih (i + 1) _ x hx
theorem slots_open {H W : Int} {bl ri be : List Bool} (hc : gcheck H W bl ri be = 0) : ∀ x ∈ slotsOf H W bl ri be, ∀ c ∈ x.f2, gopen bl c = true := by
  unfold slotsOf
  rw [if_pos hc]
  intro x hx
  obtain ⟨y, hy, rfl⟩ := List.mem_map.1 hx
  exact gslots_open hc _ _ _ y hy
theorem rd_mem {xs : List Int} {i : Int} (h0 : 0 ≤ i) (h1 : i < xs.length) : rd xs i ∈ xs := by
  have hl : i.toNat < xs.length := by omega
  have e : rd xs i = xs[i.toNat] := by unfold rd; rw [List.getD_eq_getElem?_getD, List.getElem?_eq_getElem hl]; rfl
  rw [e]; exact List.getElem_mem hl
theorem stepOf_open {H W : Int} {bl ri be : List Bool} {at_ : Int} {dn : Bool} {d : Int} (hc : gcheck H W bl ri be = 0) (h : gopen bl at_ = true) : gopen bl (stepOf H W bl ri be at_ dn d) = true := by
  unfold stepOf stepSeat
  split
  · exact h
  · split
    · rename_i h1 h2
      generalize hx : rd_T93 (slotsOf H W bl ri be) (rd_T91 (seatRow H W bl ri be dn) at_).f0 = x at h2 ⊢
      by_cases hl : (rd_T91 (seatRow H W bl ri be dn) at_).f0.toNat < (slotsOf H W bl ri be).length
      · have hm : x ∈ slotsOf H W bl ri be := by
          rw [← hx]
          have e : rd_T93 (slotsOf H W bl ri be) (rd_T91 (seatRow H W bl ri be dn) at_).f0 = (slotsOf H W bl ri be)[(rd_T91 (seatRow H W bl ri be dn) at_).f0.toNat] := by
            unfold rd_T93
            rw [List.getD_eq_getElem?_getD, List.getElem?_eq_getElem hl]; rfl
          rw [e]; exact List.getElem_mem hl
        exact slots_open hc x hm _ (rd_mem h2.1 h2.2)
      · have e : x.f2 = [] := by
          rw [← hx]
          unfold rd_T93
          rw [List.getD_eq_getElem?_getD, List.getElem?_eq_none (by omega)]; rfl
        rw [e] at h2
        simp only [List.length_nil] at h2
        omega
    · exact h
theorem pbad_iff (bl : List Bool) (cells : List ByteArray) : ∀ (d i : Nat), pbad bl cells d i = false ↔ ∀ j, i ≤ j → j < i + d → pbad1 bl cells j = false
  | 0, i => by simp only [pbad, true_iff]; intro j h1 h2; omega
  | d + 1, i => by
    simp only [pbad, Bool.or_eq_false_iff, pbad_iff bl cells d (i + 1)]
    constructor
    · intro ⟨h0, h⟩ j h1 h2
      by_cases e : j = i
      · rw [e]; exact h0
      · exact h j (by omega) (by omega)
    · intro h
      exact ⟨h i (by omega) (by omega), fun j h1 h2 => h j (by omega) (by omega)⟩
theorem sbad_iff (sc : List ByteArray) (ss : List Bool) : ∀ (d i : Nat), sbad sc ss d i = false ↔ ∀ j : Nat, i ≤ j → j < i + d → (rdOf ByteArray.empty sc (j : Int)).toList = [] → rdOf false ss (j : Int) = false
  | 0, i => by simp only [sbad, true_iff]; intro j h1 h2; omega
  | d + 1, i => by
    simp only [sbad, Bool.or_eq_false_iff, Bool.and_eq_false_iff, sbad_iff sc ss d (i + 1)]
    constructor
    · intro ⟨h0, h⟩ j h1 h2 h3
      by_cases e : j = i
      · subst e
        rcases h0 with h0 | h0
        · rw [h3] at h0; cases h0
        · exact h0
      · exact h j (by omega) (by omega) h3
    · intro h
      refine ⟨?_, fun j h1 h2 => h j (by omega) (by omega)⟩
      by_cases e : (rdOf ByteArray.empty sc (i : Int)).toList = []
      · exact .inr (h i (by omega) (by omega) e)
      · exact .inl (toList_nil.2 e)
structure Rsheet (bl : List Bool) (cells sc : List ByteArray) (ss : List Bool) (at_ : Int) : Prop where
  l : sc.length = cells.length
  m : ss.length = cells.length
  b : cells.length = bl.length
  good : ∀ j : Nat, j < sc.length → pbad1 bl sc j = false
  sure : ∀ j : Nat, j < sc.length → (rdOf ByteArray.empty sc (j : Int)).toList = [] → rdOf false ss (j : Int) = false
  open_ : gopen bl at_ = true
theorem uline_empty : uline ⟨#[]⟩ = true := by decide +kernel
theorem Rsheet.check {title : ByteArray} {H W : Int} {bl ri be : List Bool} {cells clues sc : List ByteArray} {ss : List Bool} {at_ : Int} (hp : pcheck title H W bl ri be cells clues = 0) (h : Rsheet bl cells sc ss at_) : scheck title H W bl ri be cells clues sc ss at_ = 0 := by
  obtain ⟨h1, h2, h3, h4, h5⟩ := pcheck_ok hp
  unfold scheck
  rw [if_pos hp, if_pos (⟨h.l, h.m⟩ : sc.length = cells.length ∧ ss.length = cells.length)]
  have e : pcheck ⟨#[]⟩ H W bl ri be sc clues = 0 := by
    unfold pcheck
    have hb : pbad bl sc sc.length 0 = false := (pbad_iff bl sc sc.length 0).2 (fun j _ hj => h.good j (by omega))
    rw [if_pos h1, if_pos (by rw [h.l, h.b]), hb]
    simp only [Bool.false_eq_true, if_false]
    rw [if_pos h4]
    have hu : (clues ++ [(⟨#[]⟩ : ByteArray)]).all uline = true := by
      rw [List.all_append, Bool.and_eq_true] at h5 ⊢
      exact And.intro h5.1 (by rw [List.all_cons, uline_empty]; rfl)
    rw [hu]; rfl
  have hs : sbad sc ss sc.length 0 = false := (sbad_iff sc ss sc.length 0).2 (fun j _ hj => h.sure j (by omega))
  rw [if_pos e, hs, h.open_]
  rfl
theorem Rsheet.of_check {title : ByteArray} {H W : Int} {bl ri be : List Bool} {cells clues sc : List ByteArray} {ss : List Bool} {at_ : Int} (h : scheck title H W bl ri be cells clues sc ss at_ = 0) : Rsheet bl cells sc ss at_ := by
  obtain ⟨h1, h2, h3, h4, h5, h6⟩ := scheck_ok h
  exact ⟨h2, h3, (pcheck_ok h1).2.1, fun j hj => (pbad_iff bl sc sc.length 0).1 (pcheck_ok h4).2.2.1 j (by omega) (by omega), fun j hj => (sbad_iff sc ss sc.length 0).1 h5 j (by omega) (by omega), h6⟩
theorem rdOf_set {α : Type} (d : α) (l : List α) (i : Nat) (x : α) (j : Nat) (hi : i < l.length) : rdOf d (l.set i x) (j : Int) = if i = j then x else rdOf d l (j : Int) := by
  unfold rdOf
  rw [Int.toNat_natCast, List.getD_eq_getElem?_getD, List.getD_eq_getElem?_getD, List.getElem?_set]
  by_cases h : i = j
  · rw [if_pos h, if_pos h, if_pos hi]; rfl
  · rw [if_neg h, if_neg h]
theorem pbad1_letter {bl : List Bool} {sc : List ByteArray} {j : Nat} (h : pbad1 bl sc j = false) : (rdOf ByteArray.empty sc (j : Int)).toList = [] ∨ (rdOf false bl (j : Int) = false ∧ uletter (rdOf ByteArray.empty sc (j : Int)) = true) := by
  unfold pbad1 at h
  by_cases e : (rdOf ByteArray.empty sc (j : Int)).toList = []
  · exact .inl e
  · rw [toList_nil.2 e] at h
    right
    simpa using h
theorem pbad1_of {bl : List Bool} {sc : List ByteArray} {j : Nat} (h : (rdOf ByteArray.empty sc (j : Int)).toList = [] ∨ (rdOf false bl (j : Int) = false ∧ uletter (rdOf ByteArray.empty sc (j : Int)) = true)) : pbad1 bl sc j = false := by
  unfold pbad1
  rcases h with e | ⟨e1, e2⟩
  · rw [e]; rfl
  · rw [e1, e2]; simp
theorem gopen_rd {bl : List Bool} {i : Int} (h : gopen bl i = true) : 0 ≤ i ∧ i < bl.length ∧ rdOf false bl i = false := by
  unfold gopen at h
  simp only [Bool.and_eq_true, decide_eq_true_eq, Bool.not_eq_true'] at h
  exact ⟨h.1.1, h.1.2, h.2⟩
theorem Rsheet.put {bl : List Bool} {cells sc : List ByteArray} {ss : List Bool} {at_ i at2 : Int} (h : Rsheet bl cells sc ss at_) (hi : gopen bl i = true) (h2 : gopen bl at2 = true) (x : ByteArray) (b : Bool) (hx : (x.toList = [] ∧ b = false) ∨ uletter x = true) (hne : uletter x = true → x.toList ≠ []) : Rsheet bl cells (sc.set i.toNat x) (ss.set i.toNat b) at2 := by
  obtain ⟨hi0, hi1, hib⟩ := gopen_rd hi
  have e : ((i.toNat : Nat) : Int) = i := by omega
  have hl : i.toNat < sc.length := by have := h.l; have := h.b; omega
  have hm : i.toNat < ss.length := by have := h.m; have := h.b; omega
  refine ⟨by rw [List.length_set]; exact h.l, by rw [List.length_set]; exact h.m, h.b, fun j hj => ?_, fun j hj => ?_, h2⟩
  · rw [List.length_set] at hj
    apply pbad1_of
    rw [rdOf_set _ _ _ _ _ hl]
    by_cases hij : i.toNat = j
    · rw [if_pos hij, ← hij, e]
      rcases hx with hx | hx
      · exact .inl hx.1
      · exact .inr ⟨hib, hx⟩
    · rw [if_neg hij]
      exact pbad1_letter (h.good j hj)
  · rw [List.length_set] at hj
    rw [rdOf_set _ _ _ _ _ hl, rdOf_set _ _ _ _ _ hm]
    by_cases hij : i.toNat = j
    · rw [if_pos hij, if_pos hij]
      intro h0
      rcases hx with hx | hx
      · exact hx.2
      · exact absurd h0 (hne hx)
    · rw [if_neg hij, if_neg hij]
      exact h.sure j hj
theorem Rsheet.to {bl : List Bool} {cells sc : List ByteArray} {ss : List Bool} {at_ at2 : Int} (h : Rsheet bl cells sc ss at_) (h2 : gopen bl at2 = true) : Rsheet bl cells sc ss at2 := ⟨h.l, h.m, h.b, h.good, h.sure, h2⟩
theorem letter_ne {x : ByteArray} (h : uletter x = true) : x.toList ≠ [] := by
  intro h0
  have h1 := letter_count h
  have h2 : x.size = 0 := by
    have : x.data.toList = x.toList := by rw [ByteArray.toList_eq]
    have h3 : x.data.toList.length = 0 := by rw [this, h0]; rfl
    rw [Array.length_toList] at h3
    exact h3
  have := ucount_le x
  omega
theorem empty_toList : (⟨#[]⟩ : ByteArray).toList = [] := by rw [ByteArray.toList_eq]
theorem do_right {title : ByteArray} {H W : Int} {bl ri be : List Bool} {cells clues sc : List ByteArray} {ss : List Bool} {at_ : Int} {dn : Bool} {kind cell : Int} {text : ByteArray} {tc : List ByteArray} {ts : List Bool} {ta : Int} {td : Bool}
    (hr : doOf title H W bl ri be cells clues sc ss at_ dn kind cell text = (tc, ts, ta, td, 0)) : pcheck title H W bl ri be cells clues = 0 ∧ Rsheet bl cells sc ss at_ ∧ Rsheet bl cells tc ts ta := by
  unfold doOf at hr
  by_cases hs : scheck title H W bl ri be cells clues sc ss at_ = 0
  · rw [if_pos hs] at hr
    have h := Rsheet.of_check hs
    have hp := (scheck_ok hs).1
    refine ⟨hp, h, ?_⟩
    have hg := (pcheck_ok hp).1
    split at hr
    · injection hr with _ hr; injection hr with _ hr; injection hr with _ hr; injection hr with _ hr; cases hr
    · unfold doAct at hr
      split at hr
      · split at hr
        · injection hr with _ hr; injection hr with _ hr; injection hr with _ hr; injection hr with _ hr; cases hr
        · rename_i hn
          have hl : uletter (ufold text false) = true := fold_letter text (by omega) (by omega)
          injection hr with e1 hr; injection hr with e2 hr; injection hr with e3 hr
          rw [← e1, ← e2, ← e3]
          exact h.put h.open_ (stepOf_open hg h.open_) _ _ (.inr hl) letter_ne
      · split at hr
        · split at hr
          · injection hr with e1 hr; injection hr with e2 hr; injection hr with e3 hr
            rw [← e1, ← e2, ← e3]
            exact h.put (stepOf_open hg h.open_) (stepOf_open hg h.open_) _ _ (.inl ⟨empty_toList, rfl⟩) letter_ne
          · injection hr with e1 hr; injection hr with e2 hr; injection hr with e3 hr
            rw [← e1, ← e2, ← e3]
            exact h.put h.open_ h.open_ _ _ (.inl ⟨empty_toList, rfl⟩) letter_ne
        · split at hr
          · split at hr
            · rename_i ho
              split at hr
              · injection hr with e1 hr; injection hr with e2 hr; injection hr with e3 hr
                rw [← e1, ← e2, ← e3]
                exact h
              · injection hr with e1 hr; injection hr with e2 hr; injection hr with e3 hr
                rw [← e1, ← e2, ← e3]
                exact h.to ho
            · injection hr with _ hr; injection hr with _ hr; injection hr with _ hr; injection hr with _ hr; cases hr
          · split at hr
            · injection hr with e1 hr; injection hr with e2 hr; injection hr with e3 hr
              rw [← e1, ← e2, ← e3]
              exact h
            · split at hr
              · split at hr
                · injection hr with _ hr; injection hr with _ hr; injection hr with _ hr; injection hr with _ hr; cases hr
                · rename_i hne
                  injection hr with e1 hr; injection hr with e2 hr; injection hr with e3 hr
                  rw [← e1, ← e2, ← e3]
                  obtain ⟨hi0, hi1, hib⟩ := gopen_rd h.open_
                  have e : ((at_.toNat : Nat) : Int) = at_ := by omega
                  have hm : at_.toNat < ss.length := by have := h.m; have := h.b; omega
                  refine ⟨h.l, by rw [List.length_set]; exact h.m, h.b, h.good, fun j hj => ?_, h.open_⟩
                  rw [rdOf_set _ _ _ _ _ hm]
                  by_cases hij : at_.toNat = j
                  · intro h0
                    rw [← hij, e] at h0
                    unfold emptyAt at hne
                    rw [h0] at hne
                    exact absurd rfl hne
                  · rw [if_neg hij]
                    exact h.sure j hj
              · split at hr
                · split at hr
                  · injection hr with _ hr; injection hr with _ hr; injection hr with _ hr; injection hr with _ hr; cases hr
                  · rename_i hne
                    injection hr with e1 hr; injection hr with e2 hr; injection hr with e3 hr
                    rw [← e1, ← e2, ← e3]
                    obtain ⟨hi0, hi1, hib⟩ := gopen_rd h.open_
                    have e : ((at_.toNat : Nat) : Int) = at_ := by omega
                    have hb := (pbad_iff bl cells cells.length 0).1 (pcheck_ok hp).2.2.1 at_.toNat (by omega) (by have := h.b; omega)
                    have hl := pbad1_letter hb
                    rw [e] at hl
                    have hl2 : uletter (rdOf ByteArray.empty cells at_) = true := by
                      rcases hl with h0 | hl
                      · unfold emptyAt at hne
                        rw [h0] at hne
                        exact absurd rfl hne
                      · exact hl.2
                    exact h.put h.open_ h.open_ _ _ (.inr hl2) letter_ne
                · injection hr with e1 hr; injection hr with e2 hr; injection hr with e3 hr
                  rw [← e1, ← e2, ← e3]
                  have hrep : ∀ j : Nat, rdOf ByteArray.empty (List.replicate sc.length (⟨#[]⟩ : ByteArray)) (j : Int) = ⟨#[]⟩ := fun j => by
                    unfold rdOf
                    rw [Int.toNat_natCast, List.getD_eq_getElem?_getD, List.getElem?_replicate]
                    split <;> rfl
                  have hrep2 : ∀ j : Nat, rdOf false (List.replicate ss.length false) (j : Int) = false := fun j => by
                    unfold rdOf
                    rw [Int.toNat_natCast, List.getD_eq_getElem?_getD, List.getElem?_replicate]
                    split <;> rfl
                  exact ⟨by rw [List.length_replicate]; exact h.l, by rw [List.length_replicate]; exact h.m, h.b, fun j _ => pbad1_of (.inl (by rw [hrep j, empty_toList])), fun j _ _ => hrep2 j, h.open_⟩
  · rw [if_neg hs] at hr
    injection hr with _ hr; injection hr with _ hr; injection hr with _ hr; injection hr with _ hr
    exact absurd hr hs
theorem do_err {title : ByteArray} {H W : Int} {bl ri be : List Bool} {cells clues sc : List ByteArray} {ss : List Bool} {at_ : Int} {dn : Bool} {kind cell : Int} {text : ByteArray} {tc : List ByteArray} {ts : List Bool} {ta er : Int} {td : Bool}
    (hr : doOf title H W bl ri be cells clues sc ss at_ dn kind cell text = (tc, ts, ta, td, er)) (he : er ≠ 0) : tc = [] := by
  unfold doOf doAct doErr at hr
  repeat' split at hr
  all_goals (injection hr with e1 hr; injection hr with e2 hr; injection hr with e3 hr; injection hr with e4 e5)
  all_goals first
    | exact e1.symm
    | exact absurd e5.symm he
theorem start_right {title : ByteArray} {H W : Int} {bl ri be : List Bool} {cells clues : List ByteArray} {tc : List ByteArray} {ts : List Bool} {ta : Int} {td : Bool} (h : sstart title H W bl ri be cells clues = (tc, ts, ta, td, 0)) : pcheck title H W bl ri be cells clues = 0 ∧ Rsheet bl cells tc ts ta := by
  unfold sstart at h
  by_cases hp : pcheck title H W bl ri be cells clues = 0
  · rw [if_pos hp] at h
    refine ⟨hp, ?_⟩
    split at h
    · injection h with _ h; injection h with _ h; injection h with _ h; injection h with _ h; cases h
    · rename_i hn
      injection h with e1 h; injection h with e2 h; injection h with e3 h
      rw [← e1, ← e2, ← e3]
      have hrep : ∀ j : Nat, rdOf ByteArray.empty (List.replicate cells.length (⟨#[]⟩ : ByteArray)) (j : Int) = ⟨#[]⟩ := fun j => by
        unfold rdOf
        rw [Int.toNat_natCast, List.getD_eq_getElem?_getD, List.getElem?_replicate]
        split <;> rfl
      have hrep2 : ∀ j : Nat, rdOf false (List.replicate cells.length false) (j : Int) = false := fun j => by
        unfold rdOf
        rw [Int.toNat_natCast, List.getD_eq_getElem?_getD, List.getElem?_replicate]
        split <;> rfl
      have hfo : ∀ (d i : Nat), i + d = bl.length → ¬ firstOpen bl d i < 0 → gopen bl (firstOpen bl d i) = true := by
        intro d
        induction d with
        | zero => intro i _ hh; exact absurd (show (-1 : Int) < 0 by omega) hh
        | succ d ih =>
          intro i hi hh
          unfold firstOpen at hh ⊢
          cases hb : rdOf false bl (i : Int) with
          | true => rw [hb] at hh; simp only [if_true] at hh ⊢; exact ih (i + 1) (by omega) hh
          | false =>
            simp only [Bool.false_eq_true, if_false]
            unfold gopen
            rw [decide_eq_true ⟨by omega, by omega⟩]
            have e : gat bl (i : Int) = false := hb
            rw [e]; rfl
      exact ⟨by rw [List.length_replicate], by rw [List.length_replicate], (pcheck_ok hp).2.1, fun j _ => pbad1_of (.inl (by rw [hrep j, empty_toList])), fun j _ _ => hrep2 j, hfo bl.length 0 (by omega) hn⟩
  · rw [if_neg hp] at h
    injection h with _ h; injection h with _ h; injection h with _ h; injection h with _ h
    exact absurd h hp
theorem start_err {title : ByteArray} {H W : Int} {bl ri be : List Bool} {cells clues : List ByteArray} {tc : List ByteArray} {ts : List Bool} {ta er : Int} {td : Bool} (h : sstart title H W bl ri be cells clues = (tc, ts, ta, td, er)) (he : er ≠ 0) : tc = [] := by
  unfold sstart at h
  repeat' split at h
  all_goals (injection h with e1 h; injection h with e2 h; injection h with e3 h; injection h with e4 e5)
  all_goals first
    | exact e1.symm
    | exact absurd e5.symm he
end Go.Proofs.YtiipailmldbpbaaDoor.Q
end
