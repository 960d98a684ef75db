/-
  SheetOne, WHERE WHAT IT READS IS OF BULK AT MOST 1048576: IT RETURNS true AND ITS ARGUMENTS READ AS THEY DID. The card ties utf8's two tables to the program's text.
-/
import Derived.Test.YtiipailmldbpbaaDoorCards
import Derived.Test.YtiipailmldbpbaaDoorTie
import Derived.Test.YtiipailmldbpbaaDoorAa3
import Derived.Test.YtiipailmldbpbaaDoorAa14
import Derived.Test.YtiipailmldbpbaaDoorAa15
set_option linter.unusedVariables false
set_option linter.unusedSimpArgs false
section
namespace Go.Proofs.YtiipailmldbpbaaDoor.Q
open Go.RowKit Go.Proofs.YtiipailmldbpbaaDoorW.PrintWords Go.Proofs.YtiipailmldbpbaaDoorW.PrintLast Go.Proofs.YtiipailmldbpbaaDoorW.PrintMore
attribute [local go_sem] max2_int min2_int max_two min_two max_three min_three max_four min_four
set_option linter.unusedVariables false
set_option linter.unusedSimpArgs false
open Go.Proofs.YtiipailmldbpbaaDoorS
def rebuslaw23_two.T1 : Bool × List (List Nat × List Nat) := (true, [([], []), ([], []), ([], []), ([0, 1, 2], [0, 1, 2]), ([], []), ([], []), ([3, 4, 5], [3, 4, 5]), ([6, 0, 1, 2, 3, 4, 5, 6], [6])])
def rebuslaw23_two.B1 : List Nat := [0, 0, 0, 7, 0, 0, 63, 127]
theorem rebuslaw23_two.tab1 : rtab .any (opsOf Tryd.f19 1) = rebuslaw23_two.T1 := by kernel_rfl
theorem rebuslaw23_two.bits1 : waitsOk rebuslaw23_two.T1.2 rebuslaw23_two.B1 = true := by kernel_rfl
def twoRow : List Bool := List.replicate 2 false
def twoCells : List ByteArray := [⟨#[67]⟩, ⟨#[67, 72]⟩]
def twoClues : List ByteArray := [⟨#[]⟩]
set_option maxHeartbeats 8000000 in
set_option maxRecDepth 100000 in
theorem rebuslaw23_two.calls (w : World) :
    Calls Tryd.prog 19 #[] w fun e w' => ∃ v0 v1 v2 v3 v4 : Value, e = .returned (.agg #[.string ⟨#[]⟩, .int .i64 1, .int .i64 2, v0, v1, v2, v3, v4]) ∧ Kd.R Kd.bool 4 w' w.heap.size (fun _ => True) v0 twoRow ∧ Kd.R Kd.bool 4 w' w.heap.size (fun _ => True) v1 twoRow ∧ Kd.R Kd.bool 4 w' w.heap.size (fun _ => True) v2 twoRow ∧ Kd.R Kd.string 9 w' w.heap.size (fun _ => True) v3 twoCells ∧ Kd.R Kd.string 9 w' w.heap.size (fun _ => True) v4 twoClues ∧ Below w.heap.size w w' := by
  have hu27 := Tryd.underlying27
  have hu24 := Tryd.underlying24
  go_enter Tryd.func19, Tryd.ntmps19
  go_wp2
  have BK := blk_drew (blk_new w (.cells #[.string (⟨#[]⟩ : ByteArray), .int .i64 0, .int .i64 0, .slice none 0 0, .slice none 0 0, .slice none 0 0, .slice none 0 0, .slice none 0 0] 27 (0, 0)))
  have HB := below_drew (below_alloc (Below.refl w.heap.size w) (.cells #[.string (⟨#[]⟩ : ByteArray), .int .i64 0, .int .i64 0, .slice none 0 0, .slice none 0 0, .slice none 0 0, .slice none 0 0, .slice none 0 0] 27 (0, 0)))
  obtain ⟨g, hg⟩ : ∃ g, w.heap.size = g := ⟨_, rfl⟩
  refine start_ (n := 8) (S := fun w' => True) (ds := []) #[false, false, false, false, false, false, false, false] (by kernel_rfl) rfl rfl trivial (fun hHeld => ?_)
  refine with_tabW rebuslaw23_two.tab1 rebuslaw23_two.bits1 (fun HT_ HW_ => ?_)
  generalize (w.alloc (.cells #[.string (⟨#[]⟩ : ByteArray), .int .i64 0, .int .i64 0, .slice none 0 0, .slice none 0 0, .slice none 0 0, .slice none 0 0, .slice none 0 0] 27 (0, 0))).drew = w3 at BK HB hHeld ⊢
  rw [hg] at BK HB ⊢
  refine inv_at [0, 1, 2, 3, 4, 5, 6, 7] (fun a0_ b a w' => ∃ v0 v1 v2 v3 v4 m3 m6 : Value, a = putSel a0_ b [(0, 1, v0), (1, 2, v1), (2, 3, v2), (3, 4, m3), (4, 5, v3), (5, 6, v4), (6, 7, m6)] ∧ (b 7 = false → w'.heap[g]? = some (.cells #[.string (⟨#[]⟩ : ByteArray), .int .i64 0, .int .i64 0, .slice none 0 0, .slice none 0 0, .slice none 0 0, .slice none 0 0, .slice none 0 0] 27 (0, 0))) ∧ Below g w w' ∧ (b 0 = true → Kd.R Kd.bool 4 w' g (fun _ => True) v0 twoRow) ∧ (b 1 = true → Kd.R Kd.bool 4 w' g (fun _ => True) v1 twoRow) ∧ (b 2 = true → Kd.R Kd.bool 4 w' g (fun _ => True) v2 twoRow) ∧ (b 4 = true → Kd.R Kd.string 9 w' g (fun _ => True) v3 twoCells) ∧ (b 5 = true → Kd.R Kd.string 9 w' g (fun _ => True) v4 twoClues) ∧ (b 7 = true → w'.heap[g]? = some (.cells #[.string (⟨#[]⟩ : ByteArray), .int .i64 1, .int .i64 2, v0, v1, v2, v3, v4] 27 (0, 0))) ∧ (b 3 = true → m3 = .agg #[.int .i64 1, .int .i64 2, v0, v1, v2]) ∧ (b 6 = true → m6 = .agg #[.string (⟨#[]⟩ : ByteArray), .int .i64 1, .int .i64 2, v0, v1, v2, v3, v4])) HT_.out HW_.out (by kernel_rfl) (by kernel_rfl) ?_ ?_ ?_
  · exact ⟨.bool false, .bool false, .bool false, .bool false, .bool false, .bool false, .bool false, by simp only [putSel, Bool.false_eq_true, if_false], fun _ => BK, HB, fun h_ => absurd h_ (by decide), fun h_ => absurd h_ (by decide), fun h_ => absurd h_ (by decide), fun h_ => absurd h_ (by decide), fun h_ => absurd h_ (by decide), fun h_ => absurd h_ (by decide), fun h_ => absurd h_ (by decide), fun h_ => absurd h_ (by decide)⟩
  · clear BK HB
    refine steps_cons ?_ ?_
    · rintro b a w' ⟨v0, v1, v2, v3, v4, m3, m6, ha, QB, QH, R0, R1, R2, R3, R4, QF, X3, X6⟩ hb_ hon hoff
      refine ⟨_, rfl, fun K hK => ?_⟩
      have hsz : g ≤ w'.heap.size := by rw [← hg]; exact QH.size
      have hB := QB (hoff 7 (by kernel_rfl))
      refine Kd.R_make_step Kd.bool _ 4 (by rfl) (N := 1) rfl 22 _ _ rfl 2 rfl rfl Tryd.underlying22 (.bool false) 1 bool_info rfl (by decide) (by decide) false (ok := fun _ => True) (okp := fun _ => True) rfl (fun _ hk => hk) trivial (by decide) (by decide) (Below.refl _ _) (Nat.le_refl _) ?_
      intro v0 w4 ho hb _ _
      refine hK.out _ _ ⟨v0, v1, v2, v3, v4, m3, m6, (by rw [ha]; exact putSel_upk 0 hb_ rfl rfl rfl), fun _ => blk_below hB hb, QH.trans (hb.mono hsz), fun _ => Kd.R_lower ho hsz, fun h_ => Kd.R_below (R1 h_) hb, fun h_ => Kd.R_below (R2 h_) hb, fun h_ => Kd.R_below (R3 h_) hb, fun h_ => Kd.R_below (R4 h_) hb, fun h_ => absurd ((hoff 7 (by kernel_rfl)).symm.trans h_) (by decide), fun h_ => absurd ((hoff 3 (by kernel_rfl)).symm.trans h_) (by decide), fun h_ => absurd ((hoff 6 (by kernel_rfl)).symm.trans h_) (by decide)⟩
    refine steps_cons ?_ ?_
    · rintro b a w' ⟨v0, v1, v2, v3, v4, m3, m6, ha, QB, QH, R0, R1, R2, R3, R4, QF, X3, X6⟩ hb_ hon hoff
      refine ⟨_, rfl, fun K hK => ?_⟩
      have hsz : g ≤ w'.heap.size := by rw [← hg]; exact QH.size
      have hB := QB (hoff 7 (by kernel_rfl))
      refine Kd.R_make_step Kd.bool _ 4 (by rfl) (N := 2) rfl 22 _ _ rfl 2 rfl rfl Tryd.underlying22 (.bool false) 1 bool_info rfl (by decide) (by decide) false (ok := fun _ => True) (okp := fun _ => True) rfl (fun _ hk => hk) trivial (by decide) (by decide) (Below.refl _ _) (Nat.le_refl _) ?_
      intro v1 w4 ho hb _ _
      refine hK.out _ _ ⟨v0, v1, v2, v3, v4, m3, m6, (by rw [ha]; exact putSel_upk 1 hb_ rfl rfl rfl), fun _ => blk_below hB hb, QH.trans (hb.mono hsz), fun h_ => Kd.R_below (R0 h_) hb, fun _ => Kd.R_lower ho hsz, fun h_ => Kd.R_below (R2 h_) hb, fun h_ => Kd.R_below (R3 h_) hb, fun h_ => Kd.R_below (R4 h_) hb, fun h_ => absurd ((hoff 7 (by kernel_rfl)).symm.trans h_) (by decide), fun h_ => absurd ((hoff 3 (by kernel_rfl)).symm.trans h_) (by decide), fun h_ => absurd ((hoff 6 (by kernel_rfl)).symm.trans h_) (by decide)⟩
    refine steps_cons ?_ ?_
    · rintro b a w' ⟨v0, v1, v2, v3, v4, m3, m6, ha, QB, QH, R0, R1, R2, R3, R4, QF, X3, X6⟩ hb_ hon hoff
      refine ⟨_, rfl, fun K hK => ?_⟩
      have hsz : g ≤ w'.heap.size := by rw [← hg]; exact QH.size
      have hB := QB (hoff 7 (by kernel_rfl))
      refine Kd.R_make_step Kd.bool _ 4 (by rfl) (N := 3) rfl 22 _ _ rfl 2 rfl rfl Tryd.underlying22 (.bool false) 1 bool_info rfl (by decide) (by decide) false (ok := fun _ => True) (okp := fun _ => True) rfl (fun _ hk => hk) trivial (by decide) (by decide) (Below.refl _ _) (Nat.le_refl _) ?_
      intro v2 w4 ho hb _ _
      refine hK.out _ _ ⟨v0, v1, v2, v3, v4, m3, m6, (by rw [ha]; exact putSel_upk 2 hb_ rfl rfl rfl), fun _ => blk_below hB hb, QH.trans (hb.mono hsz), fun h_ => Kd.R_below (R0 h_) hb, fun h_ => Kd.R_below (R1 h_) hb, fun _ => Kd.R_lower ho hsz, fun h_ => Kd.R_below (R3 h_) hb, fun h_ => Kd.R_below (R4 h_) hb, fun h_ => absurd ((hoff 7 (by kernel_rfl)).symm.trans h_) (by decide), fun h_ => absurd ((hoff 3 (by kernel_rfl)).symm.trans h_) (by decide), fun h_ => absurd ((hoff 6 (by kernel_rfl)).symm.trans h_) (by decide)⟩
    refine steps_cons ?_ ?_
    · rintro b a w' ⟨v0, v1, v2, v3, v4, m3, m6, ha, QB, QH, R0, R1, R2, R3, R4, QF, X3, X6⟩ hb_ hon hoff
      refine ⟨_, rfl, fun K hK => ?_⟩
      have hsz : g ≤ w'.heap.size := by rw [← hg]; exact QH.size
      have e1 : a.tmps[1]? = some v0 := by rw [ha]; exact putSel_on (e := (0, 1, v0)) 0 rfl rfl (hon 0 (by kernel_rfl)) rfl
      have e2 : a.tmps[2]? = some v1 := by rw [ha]; exact putSel_on (e := (1, 2, v1)) 1 rfl rfl (hon 1 (by kernel_rfl)) rfl
      have e3 : a.tmps[3]? = some v2 := by rw [ha]; exact putSel_on (e := (2, 3, v2)) 2 rfl rfl (hon 2 (by kernel_rfl)) rfl
      replace ha := Aside0.mk ha
      obtain ⟨A0, n0, c0, rfl⟩ := R_slice3 (R0 (hon 0 (by kernel_rfl)))
      obtain ⟨A1, n1, c1, rfl⟩ := R_slice3 (R1 (hon 1 (by kernel_rfl)))
      obtain ⟨A2, n2, c2, rfl⟩ := R_slice3 (R2 (hon 2 (by kernel_rfl)))
      refine value_ (w1 := w') (v := .agg #[.int .i64 1, .int .i64 2, .slice A0 n0 c0, .slice A1 n1 c1, .slice A2 n2 c2]) (by rfl) rfl ?_ ?_
      · go_simp
        (try simp only [i64_w])
        try rfl
      exact hK.out _ _ ⟨.slice A0 n0 c0, .slice A1 n1 c1, .slice A2 n2 c2, v3, v4, (.agg #[.int .i64 1, .int .i64 2, .slice A0 n0 c0, .slice A1 n1 c1, .slice A2 n2 c2]), m6, (by rw [ha.out]; exact putSel_upk 3 hb_ rfl rfl rfl), QB, QH, R0, R1, R2, R3, R4, fun h_ => absurd ((hoff 7 (by kernel_rfl)).symm.trans h_) (by decide), fun _ => rfl, fun h_ => absurd ((hoff 6 (by kernel_rfl)).symm.trans h_) (by decide)⟩
    refine steps_cons ?_ ?_
    · rintro b a w' ⟨v0, v1, v2, v3, v4, m3, m6, ha, QB, QH, R0, R1, R2, R3, R4, QF, X3, X6⟩ hb_ hon hoff
      refine ⟨_, rfl, fun K hK => ?_⟩
      have hsz : g ≤ w'.heap.size := by rw [← hg]; exact QH.size
      have hB := QB (hoff 7 (by kernel_rfl))
      refine Kd.R_lit_step Kd.string _ 9 ?hg (N := 5) ?hd (xs := ([(⟨#[67]⟩ : ByteArray), (⟨#[67, 72]⟩ : ByteArray)] : List ByteArray)) (inner := [.string (⟨#[67]⟩ : ByteArray), .string (⟨#[67, 72]⟩ : ByteArray)]) (ok := fun _ => True) (okp := fun _ => True) ?hr ?hp (fun _ hk => hk) trivial (Below.refl _ _) (Nat.le_refl _) (by simp) ?_; (case hd => rfl); (case hg => rfl); (case hr => first | (go_simp; done) | (go_simp; rfl)); (case hp => exact (Reps.one (show Kd.M Kd.string _ _ _ (⟨#[67]⟩ : ByteArray) [.string (⟨#[67]⟩ : ByteArray)] from rfl) (Reps.one (show Kd.M Kd.string _ _ _ (⟨#[67, 72]⟩ : ByteArray) [.string (⟨#[67, 72]⟩ : ByteArray)] from rfl) (Reps.none _ _))))
      intro v3 w4 ho hb _ _
      refine hK.out _ _ ⟨v0, v1, v2, v3, v4, m3, m6, (by rw [ha]; exact putSel_upk 4 hb_ rfl rfl rfl), fun _ => blk_below hB hb, QH.trans (hb.mono hsz), fun h_ => Kd.R_below (R0 h_) hb, fun h_ => Kd.R_below (R1 h_) hb, fun h_ => Kd.R_below (R2 h_) hb, fun _ => Kd.R_lower ho hsz, fun h_ => Kd.R_below (R4 h_) hb, fun h_ => absurd ((hoff 7 (by kernel_rfl)).symm.trans h_) (by decide), fun h_ => X3 h_, fun h_ => absurd ((hoff 6 (by kernel_rfl)).symm.trans h_) (by decide)⟩
    refine steps_cons ?_ ?_
    · rintro b a w' ⟨v0, v1, v2, v3, v4, m3, m6, ha, QB, QH, R0, R1, R2, R3, R4, QF, X3, X6⟩ hb_ hon hoff
      refine ⟨_, rfl, fun K hK => ?_⟩
      have hsz : g ≤ w'.heap.size := by rw [← hg]; exact QH.size
      have hB := QB (hoff 7 (by kernel_rfl))
      refine Kd.R_lit_step Kd.string _ 9 ?hg (N := 6) ?hd (xs := ([(⟨#[]⟩ : ByteArray)] : List ByteArray)) (inner := [.string (⟨#[]⟩ : ByteArray)]) (ok := fun _ => True) (okp := fun _ => True) ?hr ?hp (fun _ hk => hk) trivial (Below.refl _ _) (Nat.le_refl _) (by simp) ?_; (case hd => rfl); (case hg => rfl); (case hr => first | (go_simp; done) | (go_simp; rfl)); (case hp => exact (Reps.one (show Kd.M Kd.string _ _ _ (⟨#[]⟩ : ByteArray) [.string (⟨#[]⟩ : ByteArray)] from rfl) (Reps.none _ _)))
      intro v4 w4 ho hb _ _
      refine hK.out _ _ ⟨v0, v1, v2, v3, v4, m3, m6, (by rw [ha]; exact putSel_upk 5 hb_ rfl rfl rfl), fun _ => blk_below hB hb, QH.trans (hb.mono hsz), fun h_ => Kd.R_below (R0 h_) hb, fun h_ => Kd.R_below (R1 h_) hb, fun h_ => Kd.R_below (R2 h_) hb, fun h_ => Kd.R_below (R3 h_) hb, fun _ => Kd.R_lower ho hsz, fun h_ => absurd ((hoff 7 (by kernel_rfl)).symm.trans h_) (by decide), fun h_ => X3 h_, fun h_ => absurd ((hoff 6 (by kernel_rfl)).symm.trans h_) (by decide)⟩
    refine steps_cons ?_ ?_
    · rintro b a w' ⟨v0, v1, v2, v3, v4, m3, m6, ha, QB, QH, R0, R1, R2, R3, R4, QF, X3, X6⟩ hb_ hon hoff
      refine ⟨_, rfl, fun K hK => ?_⟩
      have hsz : g ≤ w'.heap.size := by rw [← hg]; exact QH.size
      have e4 : a.tmps[4]? = some m3 := by rw [ha]; exact putSel_on (e := (3, 4, m3)) 3 rfl rfl (hon 3 (by kernel_rfl)) rfl
      rw [X3 (hon 3 (by kernel_rfl))] at e4
      have e5 : a.tmps[5]? = some v3 := by rw [ha]; exact putSel_on (e := (4, 5, v3)) 4 rfl rfl (hon 4 (by kernel_rfl)) rfl
      have e6 : a.tmps[6]? = some v4 := by rw [ha]; exact putSel_on (e := (5, 6, v4)) 5 rfl rfl (hon 5 (by kernel_rfl)) rfl
      replace ha := Aside0.mk ha
      obtain ⟨A0, n0, c0, rfl⟩ := R_slice3 (R0 (hon 0 (by kernel_rfl)))
      obtain ⟨A1, n1, c1, rfl⟩ := R_slice3 (R1 (hon 1 (by kernel_rfl)))
      obtain ⟨A2, n2, c2, rfl⟩ := R_slice3 (R2 (hon 2 (by kernel_rfl)))
      obtain ⟨A3, n3, c3, rfl⟩ := R_slice3 (R3 (hon 4 (by kernel_rfl)))
      obtain ⟨A4, n4, c4, rfl⟩ := R_slice3 (R4 (hon 5 (by kernel_rfl)))
      refine value_ (w1 := w') (v := .agg #[.string (⟨#[]⟩ : ByteArray), .int .i64 1, .int .i64 2, .slice A0 n0 c0, .slice A1 n1 c1, .slice A2 n2 c2, .slice A3 n3 c3, .slice A4 n4 c4]) (by rfl) rfl ?_ ?_
      · go_simp
        (try simp only [i64_w])
        try rfl
      exact hK.out _ _ ⟨.slice A0 n0 c0, .slice A1 n1 c1, .slice A2 n2 c2, .slice A3 n3 c3, .slice A4 n4 c4, m3, (.agg #[.string (⟨#[]⟩ : ByteArray), .int .i64 1, .int .i64 2, .slice A0 n0 c0, .slice A1 n1 c1, .slice A2 n2 c2, .slice A3 n3 c3, .slice A4 n4 c4]), (by rw [ha.out]; exact putSel_upk 6 hb_ rfl rfl rfl), QB, QH, R0, R1, R2, R3, R4, fun h_ => absurd ((hoff 7 (by kernel_rfl)).symm.trans h_) (by decide), X3, fun _ => rfl⟩
    refine steps_cons ?_ ?_
    · rintro b a w' ⟨v0, v1, v2, v3, v4, m3, m6, ha, QB, QH, R0, R1, R2, R3, R4, QF, X3, X6⟩ hb_ hon hoff
      refine ⟨_, rfl, fun K hK => ?_⟩
      have hsz : g ≤ w'.heap.size := by rw [← hg]; exact QH.size
      have e0 : a.tmps[0]? = some (.pointer (some ⟨g, 0, none⟩)) := by rw [ha]; exact (putSel_off rfl).trans rfl
      have e7 : a.tmps[7]? = some m6 := by rw [ha]; exact putSel_on (e := (6, 7, m6)) 6 rfl rfl (hon 6 (by kernel_rfl)) rfl
      rw [X6 (hon 6 (by kernel_rfl))] at e7
      replace ha := Aside0.mk ha
      have hB := QB hb_
      obtain ⟨A0, n0, c0, rfl⟩ := R_slice3 (R0 (hon 0 (by kernel_rfl)))
      obtain ⟨A1, n1, c1, rfl⟩ := R_slice3 (R1 (hon 1 (by kernel_rfl)))
      obtain ⟨A2, n2, c2, rfl⟩ := R_slice3 (R2 (hon 2 (by kernel_rfl)))
      obtain ⟨A3, n3, c3, rfl⟩ := R_slice3 (R3 (hon 4 (by kernel_rfl)))
      obtain ⟨A4, n4, c4, rfl⟩ := R_slice3 (R4 (hon 5 (by kernel_rfl)))
      obtain ⟨s0, s1, s2, s3, s4, s5, s6, s7⟩ := cells8 hB
      have f0 := blk_frozen hB 0
      have f1 := blk_frozen hB 1
      have f2 := blk_frozen hB 2
      have f3 := blk_frozen hB 3
      have f4 := blk_frozen hB 4
      have f5 := blk_frozen hB 5
      have f6 := blk_frozen hB 6
      have f7 := blk_frozen hB 7
      obtain ⟨p1, p2, p3⟩ := put8_facts hB (.string (⟨#[]⟩ : ByteArray)) (.int .i64 1) (.int .i64 2) (.slice A0 n0 c0) (.slice A1 n1 c1) (.slice A2 n2 c2) (.slice A3 n3 c3) (.slice A4 n4 c4)
      replace hB := Aside0.mk hB
      refine skip_ (w1 := put8 w' g (.string (⟨#[]⟩ : ByteArray)) (.int .i64 1) (.int .i64 2) (.slice A0 n0 c0) (.slice A1 n1 c1) (.slice A2 n2 c2) (.slice A3 n3 c3) (.slice A4 n4 c4)) (by rfl) rfl ?_ ?_
      · clear p1 p2 p3
        go_simp
        rfl
      exact hK.out _ _ ⟨.slice A0 n0 c0, .slice A1 n1 c1, .slice A2 n2 c2, .slice A3 n3 c3, .slice A4 n4 c4, m3, m6, (by rw [ha.out]; exact putSel_none (v := undef) rfl), fun h0_ => absurd ((up_self b 7).symm.trans h0_) (by decide), p3 _ _ QH (Nat.le_refl _), fun h_ => R_of_heap (R0 h_) hB.out (by decide) p2, fun h_ => R_of_heap (R1 h_) hB.out (by decide) p2, fun h_ => R_of_heap (R2 h_) hB.out (by decide) p2, fun h_ => R_of_heap (R3 h_) hB.out (by decide) p2, fun h_ => R_of_heap (R4 h_) hB.out (by decide) p2, fun _ => p1, X3, X6⟩
    exact steps_nil
  rintro b a w' hall ⟨v0, v1, v2, v3, v4, m3, m6, ha, QB, QH, R0, R1, R2, R3, R4, QF, X3, X6⟩
  have hb0_ := hall 0 (by kernel_rfl)
  have hb1_ := hall 1 (by kernel_rfl)
  have hb2_ := hall 2 (by kernel_rfl)
  have hb3_ := hall 3 (by kernel_rfl)
  have hb4_ := hall 4 (by kernel_rfl)
  have hb5_ := hall 5 (by kernel_rfl)
  have hb6_ := hall 6 (by kernel_rfl)
  have hb7_ := hall 7 (by kernel_rfl)
  subst ha
  have hF := Aside0.mk (QF hb7_)
  have R0' := Aside0.mk (R0 hb0_)
  have R1' := Aside0.mk (R1 hb1_)
  have R2' := Aside0.mk (R2 hb2_)
  have R3' := Aside0.mk (R3 hb4_)
  have R4' := Aside0.mk (R4 hb5_)
  have QH' := Aside0.mk QH
  simp only [putSel, hb0_, hb1_, hb2_, hb3_, hb4_, hb5_, hb6_, if_true, Act.put, List.setIfInBounds_toArray, List.set_cons_zero, List.set_cons_succ]
  clear QB QF R0 R1 R2 R3 R4 X3 X6 QH hall hb0_ hb1_ hb2_ hb3_ hb4_ hb5_ hb6_ hb7_ BK HB
  go_wp2
  subst hg
  refine bodyPost_ret (results_cell_row rfl _ _ w.heap.size 27 #[.string (⟨#[]⟩ : ByteArray), .int .i64 1, .int .i64 2, v0, v1, v2, v3, v4] (0, 0) _ rfl hF.out Tryd.underlying27 rfl (by kernel_rfl)) rfl ?_
  exact ⟨_, _, _, _, _, rfl, R0'.out, R1'.out, R2'.out, R3'.out, R4'.out, QH'.out⟩
end Go.Proofs.YtiipailmldbpbaaDoor.Q
end
section
namespace Go.Proofs.YtiipailmldbpbaaDoor.Q
open Go.RowKit Go.Proofs.YtiipailmldbpbaaDoorW.PrintWords Go.Proofs.YtiipailmldbpbaaDoorW.PrintLast Go.Proofs.YtiipailmldbpbaaDoorW.PrintMore
set_option linter.unusedVariables false
open Go.Proofs.YtiipailmldbpbaaDoorS
def slacks (cells sc : List ByteArray) : Nat → Nat → Bool
  | 0, _ => false
  | d + 1, i => (!(rdOf ByteArray.empty cells (i : Int)).toList.isEmpty && !decide ((rdOf ByteArray.empty sc (i : Int)).toList = (rdOf ByteArray.empty cells (i : Int)).toList)) || slacks cells sc d (i + 1)
theorem sheet_Done_l0_eq (cells sc : List ByteArray) (ss : List Bool) (at_ : Int) (dn : Bool) (hl : cells.length ≤ 1048576) (hb : sc.length = cells.length) :
    ∀ (d i k : Nat), i + d = cells.length → d < k → sheet_Done.l0 k cells (cells.length : Int) (i : Int) sc ss at_ dn = some (!slacks cells sc d i) := by
  intro d
  induction d with
  | zero =>
    intro i k hi hk
    obtain ⟨k, rfl⟩ : ∃ m, k = m + 1 := ⟨k - 1, by omega⟩
    simp only [sheet_Done.l0]
    rw [if_neg (by omega)]
    rfl
  | succ d ih =>
    intro i k hi hk
    obtain ⟨k, rfl⟩ : ∃ m, k = m + 1 := ⟨k - 1, by omega⟩
    have hih := ih (i + 1) k (by omega) (by omega)
    simp only [sheet_Done.l0]
    rw [if_pos (by omega), if_pos (by omega), if_pos (by omega), w64 (by omega) (by omega)]
    simp only [slacks]
    by_cases h0 : (rdOf ByteArray.empty cells (i : Int)).toList = ([] : List UInt8)
    · rw [if_pos h0, h0]
      simpa using hih
    · rw [if_neg h0, toList_nil.2 h0, if_pos (by omega)]
      by_cases h1 : (rdOf ByteArray.empty sc (i : Int)).toList = (rdOf ByteArray.empty cells (i : Int)).toList
      · rw [if_pos h1, decide_eq_true h1]
        simpa using hih
      · rw [if_neg h1, decide_eq_false h1]
        simp
def sdone (title : ByteArray) (H W : Int) (bl ri be : List Bool) (cells clues sc : List ByteArray) (ss : List Bool) (at_ : Int) : Bool := decide (scheck title H W bl ri be cells clues sc ss at_ = 0) && !slacks cells sc cells.length 0
theorem sheet_Done_eq (title : ByteArray) (H W : Int) (bl ri be : List Bool) (cells clues sc : List ByteArray) (ss : List Bool) (at_ : Int) (dn : Bool) (ht : title.size ≤ 1048576) (hs : Small cells) (hc : Small clues) (hsc : Small sc) (hl : cells.length ≤ 1048576) (hm : clues.length ≤ 1048576) (k : Nat) (hk : 2 * bl.length + cells.length + sc.length + clues.length + 12 ≤ k) :
    sheet_Done.f k title H W bl ri be cells clues sc ss at_ dn = some (sdone title H W bl ri be cells clues sc ss at_) := by
  unfold sheet_Done.f sdone
  rw [sheet_Check_eq _ _ _ _ _ _ _ _ _ _ _ _ ht hs hc hsc hl hm _ hk]
  simp only [Option.bind_some]
  by_cases h : scheck title H W bl ri be cells clues sc ss at_ = 0
  · rw [if_pos h, decide_eq_true h, Bool.true_and]
    exact sheet_Done_l0_eq cells sc ss at_ dn hl (scheck_ok h).2.1 cells.length 0 k (by omega) (by omega)
  · rw [if_neg h, decide_eq_false h]
    rfl
def twoT : List ByteArray := [⟨#[67]⟩, ⟨#[]⟩]
theorem awake_start : sstart ⟨#[]⟩ 1 2 twoRow twoRow twoRow twoCells twoClues = (List.replicate 2 ⟨#[]⟩, List.replicate 2 false, 0, false, 0) := by decide +kernel
theorem awake_do1 : doOf ⟨#[]⟩ 1 2 twoRow twoRow twoRow twoCells twoClues (List.replicate 2 ⟨#[]⟩) (List.replicate 2 false) 0 false 1 0 ⟨#[99]⟩ = (twoT, [true, false], 1, false, 0) := by decide +kernel
theorem awake_do2 : doOf ⟨#[]⟩ 1 2 twoRow twoRow twoRow twoCells twoClues twoT [true, false] 1 false 1 0 ⟨#[99, 104]⟩ = (twoCells, [true, true], 1, false, 0) := by decide +kernel
theorem awake_done1 : sdone ⟨#[]⟩ 1 2 twoRow twoRow twoRow twoCells twoClues twoCells [true, true] 1 = true := by decide +kernel
theorem awake_done2 : sdone ⟨#[]⟩ 1 2 twoRow twoRow twoRow twoCells twoClues twoT [true, false] 1 = false := by decide +kernel
theorem DoPost.opened {w w' : World} {r : List ByteArray × List Bool × Int × Bool × Int} {e : Ending} {l : List ByteArray} {b : List Bool} {i er : Int} {dn : Bool} (h : DoPost w r e w') (hr : r = (l, b, i, dn, er)) : ∃ v0 v1, e = .returned (.tuple #[.agg #[v0, v1, .int .i64 i, .bool dn], .int .i64 er]) ∧ Kd.R Kd.string 9 w' w.heap.size (fun _ => True) v0 l ∧ Kd.R Kd.bool 4 w' w.heap.size (fun _ => True) v1 b ∧ Below w.heap.size w w' := by
  subst hr
  exact h
theorem small_of {l : List ByteArray} (h : l.all (fun s => decide (s.size ≤ 1048576)) = true) : Small l := fun s hs => of_decide_eq_true (List.all_eq_true.1 h s hs)
theorem two_s : PuzS ⟨#[]⟩ twoCells twoClues := ⟨by decide, small_of (by decide +kernel), small_of (by decide +kernel), by decide, by decide⟩
set_option maxHeartbeats 8000000 in
set_option maxRecDepth 1000000 in
theorem rebuslaw23_awake.calls (w : World) (hT : Tabs w) :
    Calls Tryd.prog 7 #[] w fun e w' => e = .returned (.bool true) ∧ Below w.heap.size w w' := by
  have hu27 := Tryd.underlying27
  have hu30 := Tryd.underlying30
  have hu36 := Tryd.underlying36
  have e1 := Lib.hid (sheet_Start_eq ⟨#[]⟩ 1 2 twoRow twoRow twoRow twoCells twoClues two_s.t two_s.s two_s.c two_s.l two_s.m 100 (by decide))
  have d1 := Lib.hid awake_do1
  have d2 := Lib.hid awake_do2
  have n1 := Lib.hid (sheet_Done_eq ⟨#[]⟩ 1 2 twoRow twoRow twoRow twoCells twoClues twoCells [true, true] 1 false two_s.t two_s.s two_s.c (small_of (by decide +kernel)) two_s.l two_s.m 100 (by decide))
  have n2 := Lib.hid (sheet_Done_eq ⟨#[]⟩ 1 2 twoRow twoRow twoRow twoCells twoClues twoT [true, false] 1 false two_s.t two_s.s two_s.c (small_of (by decide +kernel)) two_s.l two_s.m 100 (by decide))
  obtain ⟨l0, hl0⟩ : ∃ l : List ByteArray, l = List.replicate 2 ⟨#[]⟩ := ⟨_, rfl⟩
  obtain ⟨b0, hb0⟩ : ∃ l : List Bool, l = List.replicate 2 false := ⟨_, rfl⟩
  obtain ⟨b1, hb1⟩ : ∃ l : List Bool, l = [true, false] := ⟨_, rfl⟩
  obtain ⟨b2, hb2⟩ : ∃ l : List Bool, l = [true, true] := ⟨_, rfl⟩
  have hs0 : Small l0 := by rw [hl0]; exact small_of (by decide +kernel)
  have hs1 : Small twoT := small_of (by decide +kernel)
  rw [awake_start, ← hl0, ← hb0] at e1
  rw [← hl0, ← hb0, ← hb1] at d1
  rw [← hb1, ← hb2] at d2
  rw [awake_done1, ← hb2] at n1
  rw [awake_done2, ← hb1] at n2
  clear hl0 hb0 hb1 hb2
  have tok1 : True := trivial
  have tok2 : True := trivial
  have tok3 : True := trivial
  have tok4 : True := trivial
  go_enter Tryd.func7, Tryd.ntmps7
  go_wp2_with (first
    | (go_at_call 19; go_must (refine (rebuslaw23_two.calls _).mono ?_; rintro e w1 ⟨v0, v1, v2, v3, v4, rfl, r0, r1, r2, r3, r4, hB1⟩; obtain ⟨A0, c0, rfl, k0, C0⟩ := Kd.R_reads r0; obtain ⟨A1, c1, rfl, k1, C1⟩ := Kd.R_reads r1; obtain ⟨A2, c2, rfl, k2, C2⟩ := Kd.R_reads r2; obtain ⟨A3, c3, rfl, k3, C3⟩ := Kd.R_reads r3; obtain ⟨A4, c4, rfl, k4, C4⟩ := Kd.R_reads r4; have hP1 := Lib.hid (PuzR.mk C0 k0 C1 k1 C2 k2 C3 k3 C4 k4); clear r0 r1 r2 r3 r4 C0 C1 C2 C3 C4 k0 k1 k2 k3 k4; replace hB1 := Lib.hid hB1))
    | (go_at_call 8; go_must (have hPa := hP1.out.below (box1 w1 (.cells #[.string (⟨#[]⟩ : ByteArray), .int .i64 1, .int .i64 2, .slice A0 twoRow.length c0, .slice A1 twoRow.length c1, .slice A2 twoRow.length c2, .slice A3 twoCells.length c3, .slice A4 twoClues.length c4] 27)).2; have hTa := tabs_below hT (below_alloc hB1.out (.cells #[.string (⟨#[]⟩ : ByteArray), .int .i64 1, .int .i64 2, .slice A0 twoRow.length c0, .slice A1 twoRow.length c1, .slice A2 twoRow.length c2, .slice A3 twoCells.length c3, .slice A4 twoClues.length c4] 27)); refine (sheet_Start.calls 100 _ _ _ _ _ _ _ _ _ _ _ _ _ _ _ _ _ _ _ _ _ _ _ _ hPa.r2 hPa.k2 hPa.r3 hPa.k3 hPa.r4 hPa.k4 hPa.r5 hPa.k5 hPa.r6 hPa.k6 hTa e1.out).mono ?_; clear hPa hTa; rintro e w2 ⟨v5, v6, rfl, r5, r6, hB2⟩; obtain ⟨A5, c5, rfl, k5, C5⟩ := Kd.R_reads r5; obtain ⟨A6, c6, rfl, k6, C6⟩ := Kd.R_reads r6; have hS2 := Lib.hid (ShtR.mk C5 k5 C6 k6); have bP2 := Lib.hid (blk_below (box1 w1 (.cells #[.string (⟨#[]⟩ : ByteArray), .int .i64 1, .int .i64 2, .slice A0 twoRow.length c0, .slice A1 twoRow.length c1, .slice A2 twoRow.length c2, .slice A3 twoCells.length c3, .slice A4 twoClues.length c4] 27)).1 hB2); have hP2 := Lib.hid (hP1.out.below (below_step (box1 w1 (.cells #[.string (⟨#[]⟩ : ByteArray), .int .i64 1, .int .i64 2, .slice A0 twoRow.length c0, .slice A1 twoRow.length c1, .slice A2 twoRow.length c2, .slice A3 twoCells.length c3, .slice A4 twoClues.length c4] 27)).2 hB2)); replace hB2 := Lib.hid (below_step (below_alloc hB1.out (.cells #[.string (⟨#[]⟩ : ByteArray), .int .i64 1, .int .i64 2, .slice A0 twoRow.length c0, .slice A1 twoRow.length c1, .slice A2 twoRow.length c2, .slice A3 twoCells.length c3, .slice A4 twoClues.length c4] 27)) hB2); have p2 := cells8 bP2.out; have z2 := blk_lt bP2.out; clear r5 r6 C5 C6 k5 k6))
    | (go_at_call 9; have tq := tok1; go_must (clear tq tok1; have hPa := hP2.out.below (box1 w2 (.cells #[.slice A5 l0.length c5, .slice A6 b0.length c6, .int .i64 0, .bool false] 30)).2; have hSa := hS2.out.below (box1 w2 (.cells #[.slice A5 l0.length c5, .slice A6 b0.length c6, .int .i64 0, .bool false] 30)).2; have hTa := tabs_below hT (below_alloc hB2.out (.cells #[.slice A5 l0.length c5, .slice A6 b0.length c6, .int .i64 0, .bool false] 30)); refine (sheet_Do.calls hTa hPa hSa two_s hs0 (by decide)).mono ?_; clear hPa hSa hTa; rintro e w3 hD; obtain ⟨v7, v8, rfl, rA, rB, hBn⟩ := hD.opened d1.out; clear hD; obtain ⟨A7, c7, rfl, kA, CA⟩ := Kd.R_reads rA; obtain ⟨A8, c8, rfl, kB, CB⟩ := Kd.R_reads rB; have hS3 := Lib.hid (ShtR.mk CA kA CB kB); have bS3 := Lib.hid (blk_below (box1 w2 (.cells #[.slice A5 l0.length c5, .slice A6 b0.length c6, .int .i64 0, .bool false] 30)).1 hBn); have hBx := below_step (box1 w2 (.cells #[.slice A5 l0.length c5, .slice A6 b0.length c6, .int .i64 0, .bool false] 30)).2 hBn; have hP3 := Lib.hid (hP2.out.below hBx); have bP3 := Lib.hid (blk_below bP2.out hBx); skip; have hB3 := Lib.hid (below_step hB2.out hBx); have p3 := cells8 bP3.out; have q3 := cells4 bS3.out; have z3 := blk_lt bS3.out; have y3 := blk_lt bP3.out; clear rA rB CA CB kA kB hBn hBx p2))
    | (go_at_call 9; have tq := tok2; go_must (clear tq tok2; have hPa := hP3.out.below (box1 w3 (.cells #[.slice A7 twoT.length c7, .slice A8 b1.length c8, .int .i64 1, .bool false] 30)).2; have hSa := hS3.out.below (box1 w3 (.cells #[.slice A7 twoT.length c7, .slice A8 b1.length c8, .int .i64 1, .bool false] 30)).2; have hTa := tabs_below hT (below_alloc hB3.out (.cells #[.slice A7 twoT.length c7, .slice A8 b1.length c8, .int .i64 1, .bool false] 30)); refine (sheet_Do.calls hTa hPa hSa two_s hs1 (by decide)).mono ?_; clear hPa hSa hTa; rintro e w4 hD; obtain ⟨v9, va, rfl, rA, rB, hBn⟩ := hD.opened d2.out; clear hD; obtain ⟨A9, c9, rfl, kA, CA⟩ := Kd.R_reads rA; obtain ⟨Aa, ca, rfl, kB, CB⟩ := Kd.R_reads rB; have hS4 := Lib.hid (ShtR.mk CA kA CB kB); have bS4 := Lib.hid (blk_below (box1 w3 (.cells #[.slice A7 twoT.length c7, .slice A8 b1.length c8, .int .i64 1, .bool false] 30)).1 hBn); have hBx := below_step (box1 w3 (.cells #[.slice A7 twoT.length c7, .slice A8 b1.length c8, .int .i64 1, .bool false] 30)).2 hBn; have hP4 := Lib.hid (hP3.out.below hBx); have hBy := Lib.hid hBx; have bP4 := Lib.hid (blk_below bP3.out hBx); skip; have hB4 := Lib.hid (below_step hB3.out hBx); have p4 := cells8 bP4.out; have q4 := cells4 bS4.out; have z4 := blk_lt bS4.out; have y4 := blk_lt bP4.out; clear rA rB CA CB kA kB hBn hBx p3))
    | (go_at_call 10; have tq := tok3; go_must (clear tq tok3; have hPa := hP4.out.below (box1 w4 (.cells #[.slice A9 twoCells.length c9, .slice Aa b2.length ca, .int .i64 1, .bool false] 30)).2; have hSa := hS4.out.below (box1 w4 (.cells #[.slice A9 twoCells.length c9, .slice Aa b2.length ca, .int .i64 1, .bool false] 30)).2; have hTa := tabs_below hT (below_alloc hB4.out (.cells #[.slice A9 twoCells.length c9, .slice Aa b2.length ca, .int .i64 1, .bool false] 30)); refine (sheet_Done.calls 100 _ _ _ _ _ _ _ _ _ _ _ _ _ _ _ _ _ _ _ _ _ _ _ _ _ _ _ _ hPa.r2 hPa.k2 hPa.r3 hPa.k3 hPa.r4 hPa.k4 hPa.r5 hPa.k5 hPa.r6 hPa.k6 hSa.r7 hSa.k7 hSa.r8 hSa.k8 hTa n1.out).mono ?_; clear hPa hSa hTa; rintro e w5 ⟨rfl, hb5⟩; have hBx := below_step (box1 w4 (.cells #[.slice A9 twoCells.length c9, .slice Aa b2.length ca, .int .i64 1, .bool false] 30)).2 hb5; have bP5 := blk_below bP4.out hBx; have bS5 := blk_below bS4.out hBx; have hP5 := Lib.hid (hP4.out.below hBx); have hS5 := Lib.hid ((hS3.out.below hBy.out).below hBx); have hB5 := Lib.hid (below_step hB4.out hBx); have p5 := cells8 bP5; have q5 := cells4 bS5; clear hb5 hBx bP5 bS5 p4 q4))
    | (go_at_call 10; have tq := tok4; go_must (clear tq tok4; refine (sheet_Done.calls 100 _ _ _ _ _ _ _ _ _ _ _ _ _ _ _ _ _ _ _ _ _ _ _ _ _ _ _ _ hP5.out.r2 hP5.out.k2 hP5.out.r3 hP5.out.k3 hP5.out.r4 hP5.out.k4 hP5.out.r5 hP5.out.k5 hP5.out.r6 hP5.out.k6 hS5.out.r7 hS5.out.k7 hS5.out.r8 hS5.out.k8 (tabs_below hT hB5.out) n2.out).mono ?_; rintro e w6 ⟨rfl, hb6⟩))
    )
  go_ret
  exact ⟨rfl, below_step hB5.out hb6⟩
end Go.Proofs.YtiipailmldbpbaaDoor.Q
end
section
namespace Go.Proofs.YtiipailmldbpbaaDoor.Q
open Go.RowKit Go.Proofs.YtiipailmldbpbaaDoorW.PrintWords Go.Proofs.YtiipailmldbpbaaDoorW.PrintLast Go.Proofs.YtiipailmldbpbaaDoorW.PrintMore
set_option linter.unusedVariables false
open Go.Proofs.YtiipailmldbpbaaDoorS
def ndiff (a b : List ByteArray) : Nat → Nat
  | 0 => 0
  | i + 1 => ndiff a b i + if (rdOf ByteArray.empty a (i : Int)).toList = (rdOf ByteArray.empty b (i : Int)).toList then 0 else 1
theorem ndiff_same (a : List ByteArray) : ∀ i, ndiff a a i = 0
  | 0 => rfl
  | i + 1 => by simp [ndiff, ndiff_same a i]
theorem rd_set_ne {a : List ByteArray} {k i : Nat} {t : ByteArray} (h : k ≠ i) : rdOf ByteArray.empty (a.set k t) (i : Int) = rdOf ByteArray.empty a (i : Int) := by
  simp [rdOf, List.getD_eq_getElem?_getD, List.getElem?_set_ne h]
theorem ndiff_set (a : List ByteArray) (k : Nat) (t : ByteArray) : ∀ i, ndiff (a.set k t) a i ≤ 1 ∧ (i ≤ k → ndiff (a.set k t) a i = 0)
  | 0 => ⟨Nat.zero_le _, fun _ => rfl⟩
  | i + 1 => by
    have ih := ndiff_set a k t i
    by_cases h : k = i
    · have := ih.2 (by omega)
      simp only [ndiff]
      rw [this]
      exact ⟨by split <;> omega, fun hk => by omega⟩
    · simp only [ndiff]
      rw [rd_set_ne h, if_pos rfl]
      exact ⟨ih.1, fun hk => ih.2 (by omega)⟩
theorem rd_rep (n i : Nat) : (rdOf ByteArray.empty (List.replicate n (⟨#[]⟩ : ByteArray)) (i : Int)).toList = [] := by
  have e : rdOf ByteArray.empty (List.replicate n (⟨#[]⟩ : ByteArray)) (i : Int) = ⟨#[]⟩ := by
    simp only [rdOf, List.getD_eq_getElem?_getD, Int.toNat_natCast, List.getElem?_replicate]
    split <;> rfl
  rw [e]
  decide +kernel
theorem do_one {title : ByteArray} {H W : Int} {bl ri be : List Bool} {cells clues sc : List ByteArray} {ss : List Bool} {at_ : Int} {dn : Bool} {kind cell : Int} {text : ByteArray} {tc : List ByteArray} {ts : List Bool} {ta er : Int} {td : Bool}
    (h : doOf title H W bl ri be cells clues sc ss at_ dn kind cell text = (tc, ts, ta, td, er)) :
    (er ≠ 0 → tc = []) ∧ (er = 0 → tc.length = sc.length ∧ (1 ≤ kind ∧ kind ≤ 7) ∧ (kind = 7 → ∀ i : Nat, (rdOf ByteArray.empty tc (i : Int)).toList = []) ∧ (kind ≠ 7 → ∀ i, ndiff tc sc i ≤ 1) ∧ (kind = 3 ∨ kind = 4 ∨ kind = 5 → ∀ i, ndiff tc sc i = 0)) := by
  have herr : ∀ e : Int, doErr e = (tc, ts, ta, td, er) → e ≠ 0 → (er ≠ 0 → tc = []) ∧ (er = 0 → False) := fun e he hne => by
    simp only [doErr, Prod.mk.injEq] at he
    exact ⟨fun _ => he.1.symm, fun h0 => hne (he.2.2.2.2.trans h0)⟩
  have fin : ∀ (e : Int), doErr e = (tc, ts, ta, td, er) → e ≠ 0 → _ := fun e he hne => (⟨(herr e he hne).1, fun h0 => ((herr e he hne).2 h0).elim⟩ : (er ≠ 0 → tc = []) ∧ (er = 0 → tc.length = sc.length ∧ (1 ≤ kind ∧ kind ≤ 7) ∧ (kind = 7 → ∀ i : Nat, (rdOf ByteArray.empty tc (i : Int)).toList = []) ∧ (kind ≠ 7 → ∀ i, ndiff tc sc i ≤ 1) ∧ (kind = 3 ∨ kind = 4 ∨ kind = 5 → ∀ i, ndiff tc sc i = 0)))
  unfold doOf at h
  by_cases h0 : scheck title H W bl ri be cells clues sc ss at_ = 0
  · rw [if_pos h0] at h
    cases hb : badAct kind cell text with
    | true => rw [hb, if_pos rfl] at h; exact fin _ h (by decide)
    | false =>
      obtain ⟨hk, hx, hc⟩ := badAct_no hb
      rw [hb, if_neg (by decide)] at h
      have hset : ∀ {k : Nat} {t : ByteArray} {x : List Bool} {y : Int} {z : Bool}, (sc.set k t, x, y, z, (0 : Int)) = (tc, ts, ta, td, er) → kind ≠ 7 → kind ≠ 3 ∧ kind ≠ 4 ∧ kind ≠ 5 → (er ≠ 0 → tc = []) ∧ (er = 0 → tc.length = sc.length ∧ (1 ≤ kind ∧ kind ≤ 7) ∧ (kind = 7 → ∀ i : Nat, (rdOf ByteArray.empty tc (i : Int)).toList = []) ∧ (kind ≠ 7 → ∀ i, ndiff tc sc i ≤ 1) ∧ (kind = 3 ∨ kind = 4 ∨ kind = 5 → ∀ i, ndiff tc sc i = 0)) := fun he h7 h3 => by
        simp only [Prod.mk.injEq] at he
        obtain ⟨rfl, _, _, _, rfl⟩ := he
        exact ⟨fun h => absurd rfl h, fun _ => ⟨List.length_set, hk, fun h => absurd h h7, fun _ i => (ndiff_set sc _ _ i).1, fun h => by omega⟩⟩
      have hsame : ∀ {x : List Bool} {y : Int} {z : Bool}, (sc, x, y, z, (0 : Int)) = (tc, ts, ta, td, er) → kind ≠ 7 → (er ≠ 0 → tc = []) ∧ (er = 0 → tc.length = sc.length ∧ (1 ≤ kind ∧ kind ≤ 7) ∧ (kind = 7 → ∀ i : Nat, (rdOf ByteArray.empty tc (i : Int)).toList = []) ∧ (kind ≠ 7 → ∀ i, ndiff tc sc i ≤ 1) ∧ (kind = 3 ∨ kind = 4 ∨ kind = 5 → ∀ i, ndiff tc sc i = 0)) := fun he h7 => by
        simp only [Prod.mk.injEq] at he
        obtain ⟨rfl, _, _, _, rfl⟩ := he
        exact ⟨fun h => absurd rfl h, fun _ => ⟨rfl, hk, fun h => absurd h h7, fun _ i => by rw [ndiff_same]; omega, fun _ i => ndiff_same _ i⟩⟩
      unfold doAct at h
      by_cases k1 : kind = 1
      · rw [if_pos k1] at h
        split at h
        · exact fin _ h (by decide)
        · exact hset h (by omega) (by omega)
      rw [if_neg k1] at h
      by_cases k2 : kind = 2
      · rw [if_pos k2] at h
        split at h
        · exact hset h (by omega) (by omega)
        · exact hset h (by omega) (by omega)
      rw [if_neg k2] at h
      by_cases k3 : kind = 3
      · rw [if_pos k3] at h
        split at h
        · split at h
          · exact hsame h (by omega)
          · exact hsame h (by omega)
        · exact fin _ h (by decide)
      rw [if_neg k3] at h
      by_cases k4 : kind = 4
      · rw [if_pos k4] at h; exact hsame h (by omega)
      rw [if_neg k4] at h
      by_cases k5 : kind = 5
      · rw [if_pos k5] at h
        split at h
        · exact fin _ h (by decide)
        · exact hsame h (by omega)
      rw [if_neg k5] at h
      by_cases k6 : kind = 6
      · rw [if_pos k6] at h
        split at h
        · exact fin _ h (by decide)
        · exact hset h (by omega) (by omega)
      rw [if_neg k6] at h
      simp only [Prod.mk.injEq] at h
      obtain ⟨rfl, _, _, _, rfl⟩ := h
      exact ⟨fun h => absurd rfl h, fun _ => ⟨List.length_replicate, hk, fun _ i => rd_rep _ i, fun h7 => by omega, fun h => by omega⟩⟩
  · rw [if_neg h0] at h
    exact fin _ h h0
set_option maxHeartbeats 8000000 in
set_option maxRecDepth 1000000 in
theorem SheetOne.calls {title : ByteArray} {H W : Int} {A2 : Option Addr} {c2 : Nat} {bl : List Bool} {A3 : Option Addr} {c3 : Nat} {ri : List Bool} {A4 : Option Addr} {c4 : Nat} {be : List Bool} {A5 : Option Addr} {c5 : Nat} {cells : List ByteArray} {A6 : Option Addr} {c6 : Nat} {clues : List ByteArray} {A7 : Option Addr} {c7 : Nat} {sc : List ByteArray} {A8 : Option Addr} {c8 : Nat} {ss : List Bool} {at_ : Int} {dn : Bool} {kind cell : Int} {text : ByteArray} {w : World} (hT : Tabs w) (hP : PuzR A2 c2 bl A3 c3 ri A4 c4 be A5 c5 cells A6 c6 clues w) (hS : ShtR A7 c7 sc A8 c8 ss w) (hz : PuzS title cells clues) (hzs : Small sc) (hzt : text.size ≤ 1048576) (hsl : sc.length ≤ 1048576) :
    Calls Tryd.prog 4 #[.agg #[.string title, .int .i64 H, .int .i64 W, .slice A2 bl.length c2, .slice A3 ri.length c3, .slice A4 be.length c4, .slice A5 cells.length c5, .slice A6 clues.length c6], .agg #[.slice A7 sc.length c7, .slice A8 ss.length c8, .int .i64 at_, .bool dn], .agg #[.int .i64 kind, .int .i64 cell, .string text]] w fun e w' => e = .returned (.bool true) ∧ Below w.heap.size w w' := by
  have hx := box3 w (.cells #[.string title, .int .i64 H, .int .i64 W, .slice A2 bl.length c2, .slice A3 ri.length c3, .slice A4 be.length c4, .slice A5 cells.length c5, .slice A6 clues.length c6] 27) (.cells #[.slice A7 sc.length c7, .slice A8 ss.length c8, .int .i64 at_, .bool dn] 30) (.cells #[.int .i64 kind, .int .i64 cell, .string text] 36)
  replace hx := Lib.hid hx
  have hu27 := Tryd.underlying27
  have hu30 := Tryd.underlying30
  have hu36 := Tryd.underlying36
  obtain ⟨tc, ts, ta, td, er, hr⟩ : ∃ tc ts ta td er, doOf title H W bl ri be cells clues sc ss at_ dn kind cell text = (tc, ts, ta, td, er) := ⟨_, _, _, _, _, rfl⟩
  obtain ⟨h1, h2⟩ := do_one hr
  replace hr := Lib.hid hr
  replace hz := Lib.hid hz
  replace hzs := Lib.hid hzs
  by_cases her : er = 0
  · have tne : (er != 0) = false := by rw [her]; rfl
    have h2 := Lib.hid (h2 her)
    clear h1 her
    have tl : ((tc.length : Int) != (sc.length : Int)) = false := by rw [h2.out.1]; simp
    have tl2 : (tc.length != sc.length) = false := by rw [h2.out.1]; simp
    go_enter Tryd.func4, Tryd.ntmps4
    go_wp2_with (first
      | (go_at_call 7; go_must (refine (rebuslaw23_awake.calls _ (tabs_below hT hx.out.2.2.2)).mono ?_; rintro e w3 ⟨rfl, hb3⟩; have bP := Lib.hid (blk_below hx.out.1 hb3); have bS := Lib.hid (blk_below hx.out.2.1 hb3); have bA := Lib.hid (blk_below hx.out.2.2.1 hb3); have hB3 := Lib.hid (below_step hx.out.2.2.2 hb3); have p3 := cells8 bP.out; have q3 := cells4 bS.out; have a3 := cells3 bA.out; clear hb3))
      | (go_at_call 9; go_must (refine (sheet_Do.calls (tabs_below hT hB3.out) (hP.below hB3.out) (hS.below hB3.out) hz.out hzs.out hzt).mono ?_; rintro e w4 hD; obtain ⟨v0, v1, rfl, r0, r1, hb4⟩ := hD.opened hr.out; clear hD; obtain ⟨B0, k0, rfl⟩ := Kd.R_slice r0; obtain ⟨B1, k1, rfl⟩ := Kd.R_slice r1; have bS4 := Lib.hid (blk_below bS.out hb4); have bA4 := Lib.hid (blk_below bA.out hb4); have hB4 := Lib.hid (below_step hB3.out hb4); have q4 := cells4 bS4.out; have a4 := cells3 bA4.out; have z4 := blk_lt bA4.out; have y4 := blk_lt bS4.out; have R0 := Lib.hid r0; clear r0 r1 p3 q3 a3 hb4)))
    have bT5 := blk_new w4 (.cells #[.slice B0 tc.length k0, .slice B1 ts.length k1, .int .i64 ta, .bool td] 30)
    have bS5 := blk_alloc bS4.out (.cells #[.slice B0 tc.length k0, .slice B1 ts.length k1, .int .i64 ta, .bool td] 30)
    have bA5 := blk_alloc bA4.out (.cells #[.slice B0 tc.length k0, .slice B1 ts.length k1, .int .i64 ta, .bool td] 30)
    have hB5 := below_alloc hB4.out (.cells #[.slice B0 tc.length k0, .slice B1 ts.length k1, .int .i64 ta, .bool td] 30)
    have R5 := Kd.R_alloc R0.out (.cells #[.slice B0 tc.length k0, .slice B1 ts.length k1, .int .i64 ta, .bool td] 30)
    generalize w4.alloc (.cells #[.slice B0 tc.length k0, .slice B1 ts.length k1, .int .i64 ta, .bool td] 30) = w5 at bT5 bS5 bA5 hB5 R5 ⊢
    replace bT5 := Lib.hid bT5
    replace bS5 := Lib.hid bS5
    replace bA5 := Lib.hid bA5
    replace hB5 := Lib.hid hB5
    replace R5 := Lib.hid R5
    clear q4 a4 z4 y4
    go_loopw [37, 9] (fun v37 v9 wr => ∃ (i : Nat) (q n : Int), v37 = .int .i64 q ∧ v9 = .int .i64 n ∧ Hid (q = i ∧ i ≤ tc.length) ∧ Hid (n = ndiff tc sc i ∧ n ≤ i) ∧ Hid (Below w5.heap.size w5 wr)) (fun v37 _ _ => tc.length - (intOf v37).toNat)
    case atStart => exact ⟨0, 0, 0, rfl, rfl, Lib.hid ⟨rfl, Nat.zero_le _⟩, Lib.hid ⟨rfl, Int.le_refl _⟩, Lib.hid (Below.refl _ _)⟩
    case round =>
      obtain ⟨i, q, n, rfl, rfl, hq, hn, hBr⟩ := hrel
      have bT := blk_below bT5.out hBr.out
      have bS := blk_below bS5.out hBr.out
      have bA := blk_below bA5.out hBr.out
      have t7 := cells4 bT
      have s7 := cells4 bS
      have a7 := cells3 bA
      clear bT bS bA
      by_cases hlt : i < tc.length
      · have hq0 : 0 ≤ q := by have := hq.out; omega
        have hq1 : q < (tc.length : Int) := by have := hq.out; omega
        have hq2 : q < (sc.length : Int) := by have := hq.out; have := h2.out.1; omega
        obtain ⟨ad, eA, zx⟩ := Kd.at_string (Kd.R_reads' (Kd.R_below R5.out hBr.out)).2.2 q hq0 hq1
        cases eA
        obtain ⟨ad2, eA2, zy⟩ := Kd.at_string (Kd.C_below (Kd.C_below hS.r7 hB5.out) hBr.out) q hq0 hq2
        cases eA2
        obtain ⟨xa, hxa⟩ : ∃ x, rdOf ByteArray.empty tc q = x := ⟨_, rfl⟩
        obtain ⟨ya, hya⟩ : ∃ x, rdOf ByteArray.empty sc q = x := ⟨_, rfl⟩
        rw [hxa] at zx
        rw [hya] at zy
        replace hxa := Lib.hid hxa
        replace hya := Lib.hid hya
        replace hlt := Lib.hid hlt
        have hn0 : 0 ≤ n := by have := hn.out; omega
        have hn1 : n ≤ q := by have := hn.out; have := hq.out; omega
        have hq3 : q < 1048576 := by have := h2.out.1; omega
        have hnd : ndiff tc sc (i + 1) = ndiff tc sc i + if xa.toList = ya.toList then 0 else 1 := by rw [← hxa.out, ← hya.out, hq.out.1]; rfl
        replace hnd := Lib.hid hnd
        by_cases hk : kind = 7
        · have t7 : (kind == 7) = true := by rw [hk]; rfl
          have te : xa.toList.isEmpty = true := by rw [← hxa.out, hq.out.1, h2.out.2.2.1 hk i]; rfl
          clear hk
          by_cases hs : xa.toList = ya.toList
          · have ts : (xa.toList == ya.toList) = true := by rw [hs]; simp
            have hnd : ndiff tc sc (i + 1) = ndiff tc sc i := by rw [hnd.out, if_pos hs]; rfl
            replace hnd := Lib.hid hnd
            clear hs
            go_wp2
            go_quiet (fail)
            go_wp2
            refine ⟨⟨i + 1, q + 1, n, rfl, rfl, Lib.hid ⟨by have := hq.out; omega, hlt.out⟩, Lib.hid ⟨by rw [hnd.out]; have := hn.out; omega, by have := hn.out; omega⟩, Lib.hid (pw_below_drewN hBr.out _)⟩, ?_⟩
            simp only [intOf]; have := hq.out; have := hlt.out; omega
          · have ts : (xa.toList == ya.toList) = false := by simpa using hs
            have hnd : ndiff tc sc (i + 1) = ndiff tc sc i + 1 := by rw [hnd.out, if_neg hs]
            replace hnd := Lib.hid hnd
            clear hs
            go_wp2
            go_quiet (fail)
            go_wp2
            refine ⟨⟨i + 1, q + 1, n + 1, rfl, rfl, Lib.hid ⟨by have := hq.out; omega, hlt.out⟩, Lib.hid ⟨by rw [hnd.out]; have := hn.out; omega, by have := hn.out; omega⟩, Lib.hid (pw_below_drewN hBr.out _)⟩, ?_⟩
            simp only [intOf]; have := hq.out; have := hlt.out; omega
        · have t7 : (kind == 7) = false := by simpa using hk
          clear hk
          by_cases hs : xa.toList = ya.toList
          · have ts : (xa.toList == ya.toList) = true := by rw [hs]; simp
            have hnd : ndiff tc sc (i + 1) = ndiff tc sc i := by rw [hnd.out, if_pos hs]; rfl
            replace hnd := Lib.hid hnd
            clear hs
            go_wp2
            go_quiet (fail)
            go_wp2
            refine ⟨⟨i + 1, q + 1, n, rfl, rfl, Lib.hid ⟨by have := hq.out; omega, hlt.out⟩, Lib.hid ⟨by rw [hnd.out]; have := hn.out; omega, by have := hn.out; omega⟩, Lib.hid (pw_below_drewN hBr.out _)⟩, ?_⟩
            simp only [intOf]; have := hq.out; have := hlt.out; omega
          · have ts : (xa.toList == ya.toList) = false := by simpa using hs
            have hnd : ndiff tc sc (i + 1) = ndiff tc sc i + 1 := by rw [hnd.out, if_neg hs]
            replace hnd := Lib.hid hnd
            clear hs
            go_wp2
            go_quiet (fail)
            go_wp2
            refine ⟨⟨i + 1, q + 1, n + 1, rfl, rfl, Lib.hid ⟨by have := hq.out; omega, hlt.out⟩, Lib.hid ⟨by rw [hnd.out]; have := hn.out; omega, by have := hn.out; omega⟩, Lib.hid (pw_below_drewN hBr.out _)⟩, ?_⟩
            simp only [intOf]; have := hq.out; have := hlt.out; omega
      · have hiE : i = tc.length := by have := hq.out; omega
        have tlt : decide (q < (tc.length : Int)) = false := decide_eq_false (by have := hq.out; omega)
        by_cases hk : kind = 7
        · have t7 : (kind == 7) = true := by rw [hk]; rfl
          have t3 : (kind == 3) = false := by rw [hk]; rfl
          have t4 : (kind == 4) = false := by rw [hk]; rfl
          have t5 : (kind == 5) = false := by rw [hk]; rfl
          clear hk
          go_wp2
          go_ret
          exact ⟨rfl, below_step hB5.out hBr.out⟩
        · have t7 : (kind == 7) = false := by simpa using hk
          have hle := h2.out.2.2.2.1 hk i
          have tn : decide (n ≤ 1) = true := decide_eq_true (by have := hn.out; omega)
          clear hle
          by_cases k3 : kind = 3 ∨ kind = 4 ∨ kind = 5
          · have hz0 : n = 0 := by have := h2.out.2.2.2.2 k3 i; have := hn.out; omega
            subst hz0
            rcases k3 with rfl | rfl | rfl
            all_goals
              clear hk t7
              go_wp2
              go_ret
              exact ⟨rfl, below_step hB5.out hBr.out⟩
          · have t3 : (kind == 3) = false := by simp; omega
            have t4 : (kind == 4) = false := by simp; omega
            have t5 : (kind == 5) = false := by simp; omega
            clear k3 hk
            go_wp2
            go_ret
            exact ⟨rfl, below_step hB5.out hBr.out⟩
  · have tne : (er != 0) = true := bne_iff_ne.2 her
    have htc : tc.length = 0 := by rw [h1 her]; rfl
    have tl : ((tc.length : Int) == 0) = true := by rw [htc]; rfl
    have tl2 : (tc.length == 0) = true := by rw [htc]; rfl
    have tl3 : tc.isEmpty = true := by rw [h1 her]; rfl
    clear h1 h2 her htc
    go_enter Tryd.func4, Tryd.ntmps4
    go_wp2_with (first
      | (go_at_call 7; go_must (refine (rebuslaw23_awake.calls _ (tabs_below hT hx.out.2.2.2)).mono ?_; rintro e w3 ⟨rfl, hb3⟩; have bP := Lib.hid (blk_below hx.out.1 hb3); have bS := Lib.hid (blk_below hx.out.2.1 hb3); have bA := Lib.hid (blk_below hx.out.2.2.1 hb3); have hB3 := Lib.hid (below_step hx.out.2.2.2 hb3); have p3 := cells8 bP.out; have q3 := cells4 bS.out; have a3 := cells3 bA.out; clear hb3))
      | (go_at_call 9; go_must (refine (sheet_Do.calls (tabs_below hT hB3.out) (hP.below hB3.out) (hS.below hB3.out) hz.out hzs.out hzt).mono ?_; rintro e w4 hD; obtain ⟨v0, v1, rfl, r0, r1, hb4⟩ := hD.opened hr.out; clear hD; obtain ⟨B0, k0, rfl⟩ := Kd.R_slice r0; obtain ⟨B1, k1, rfl⟩ := Kd.R_slice r1; have bS4 := Lib.hid (blk_below bS.out hb4); have bA4 := Lib.hid (blk_below bA.out hb4); have hB4 := Lib.hid (below_step hB3.out hb4); have q4 := cells4 bS4.out; have a4 := cells3 bA4.out; have z4 := blk_lt bA4.out; have y4 := blk_lt bS4.out; have R0 := Lib.hid r0; clear r0 r1 p3 q3 a3 hb4)))
    go_ret
    exact ⟨rfl, below_alloc hB4.out _⟩
end Go.Proofs.YtiipailmldbpbaaDoor.Q
end
section
namespace Go.Proofs.YtiipailmldbpbaaDoor.one
open Go.ChangeShapes Go.WideShapes Go.ChangeAt Go.RowKit Go.Joins
open Go.Proofs.YtiipailmldbpbaaDoor.Q Go.Proofs.YtiipailmldbpbaaDoorS
set_option maxRecDepth 100000
def wArgs : Array Value := #[.agg #[.string ⟨#[]⟩, .int .i64 0, .int .i64 0, .slice none 0 0, .slice none 0 0, .slice none 0 0, .slice none 0 0, .slice none 0 0], .agg #[.slice none 0 0, .slice none 0 0, .int .i64 0, .bool false], .agg #[.int .i64 0, .int .i64 0, .string ⟨#[]⟩]]
def wData {H : Type} : List (DataW H) := [.agg [.lit (.string []), .agg [.lit (.int .i64 0), .lit (.int .i64 0), .nil, .nil, .nil], .nil, .nil], .agg [.nil, .nil, .lit (.int .i64 0), .lit (.bool false)], .agg [.lit (.int .i64 0), .lit (.int .i64 0), .lit (.string [])]]
theorem laid_met (os : Os) : laidMet Tryd.prog Rows.sheetOneUptoRow.laid ((laidWorld os).forCall (fun _ _ => 0) ⟨#[], wArgs, []⟩).memory :=
  laidMet_of_run' 8 (by kernel_rfl) (by kernel_rfl)
theorem reads (os : Os) {H : Type} (enc : TypeId × Value → H) : ∃ places, DataW.whole enc Tryd.prog ((laidWorld os).forCall (fun _ _ => 0) ⟨#[], wArgs, []⟩).memory Tryd.f4.params.toList Rows.sheetOneSpec.vars false wArgs.toList 8 = some (wData, [], places) :=
  ⟨[], by kernel_rfl⟩
theorem contract (H : Type) (enc : TypeId × Value → H) (W : World) (base : Nat) (args : Array Value) (ds gs : List (DataW H)) (before : List MemPlace)
    (hval : ∀ (j : Nat) t v, Tryd.f4.params[j]? = some t → args[j]? = some v → Value.okWide Tryd.prog W .any base t v)
    (hW : DataW.Whole enc Tryd.prog Tryd.f4.params.toList Rows.sheetOneSpec.vars false W args.toList ds gs before) (hL : laidMetH Tryd.prog Rows.sheetOneUptoRow.laid W) (hk : Rows.uptoSmall H (ds ++ gs) = true) :
    Calls Tryd.prog 4 args W fun e W' => ∃ v, e = .returned v ∧ Rows.sheetOneSpec.post enc Tryd.prog Tryd.f4 false true false false W args v W' := by
  have hW' := hW
  obtain ⟨p, q, hA0, hV, rfl, hfz, hnd⟩ := hW
  have hA : DataW.TrodAll enc Tryd.prog W 0 (fun _ => true) true Tryd.f4.params.toList args.toList ds p := hA0
  rw [Tryd.params4] at hA hval
  obtain ⟨v0, v1, v2, d0, d1, d2, p0, p1, p2, rfl, rfl, rfl, h0, h1, h2⟩ := trodAll_three hA
  obtain ⟨rfl, rfl⟩ := trodVars_none hV
  simp only [List.append_nil] at hW' hk
  have hb := bulk_bound hk
  simp only [Rows.uptoBulkAll] at hb
  obtain ⟨title, Hh, Ww, A2, c2, bl, A3, c3, ri, A4, c4, be, A5, c5, cells, A6, c6, clues, rfl, hP, hz⟩ := open_puzzle (hval 0 27 v0 rfl rfl) h0
  obtain ⟨A7, c7, sc, A8, c8, ss, at_, dn, rfl, hS, _, hs⟩ := open_sheet (hval 1 30 v1 rfl rfl) h1
  obtain ⟨kind, cell, text, rfl, _, _, ht⟩ := open_act (hval 2 36 v2 rfl rfl) h2
  obtain ⟨hs1, hs2⟩ := hs (by omega)
  refine (SheetOne.calls (tabs_of_laid hL) hP hS (hz (by omega)) hs1 (ht (by omega)) hs2).mono fun e W' ⟨he, hbel⟩ => ?_
  subst he
  have hlt : ∀ x ∈ p0 ++ p1 ++ p2, x.block < W.heap.size := fun x hx => hW'.lt x hx
  refine ⟨_, rfl, post_of_below (pa := p0 ++ p1 ++ p2) (pv := []) hW' (fun _ _ _ => trodAll_mk1 (shut_bool Tryd.underlying4 true)) (fun sp hsp => ?_) (fun _ _ => rfl) (by simp) hbel (ok_one (by kernel_rfl) rfl (okWide_bool_mk Tryd.underlying4 _))⟩
  have stay : ∀ {t : TypeId} {v : Value} {d : DataW H} {ps : List MemPlace}, Tryd.prog.readableRec t = true → t < Tryd.prog.types.size → DataW.Trod enc Tryd.prog W 0 (fun _ => true) true t v d ps → (∀ x ∈ ps, x ∈ p0 ++ p1 ++ p2) → DataW.Trod enc Tryd.prog W' 0 sp true t v d ps := fun hr hrow h hin =>
    WideElems.Trod_stays laid_out hr hrow h (fun x hx => hbel.same (hlt x (hin x hx))) (fun x hx => hsp x (hin x hx))
  rw [List.append_assoc]
  exact trodAll_mk3 (stay (by kernel_rfl) (of_decide_eq_true (by kernel_rfl)) h0 (fun x hx => List.mem_append_left _ (List.mem_append_left _ hx))) (stay (by kernel_rfl) (of_decide_eq_true (by kernel_rfl)) h1 (fun x hx => List.mem_append_left _ (List.mem_append_right _ hx))) (stay (by kernel_rfl) (of_decide_eq_true (by kernel_rfl)) h2 (fun x hx => List.mem_append_right _ hx))
theorem liftedUpto (os : Os) (started : os.Started) (H : Type) (enc : TypeId × Value → H) (F : Stop.Interp) :
    ReturnsInHanded {} Tryd.checked os 4 .any ((Rows.OpenSpec.upto Rows.sheetOneSpec).preRow enc Tryd.prog Tryd.f4 Rows.sheetOneUptoRow.domain false Rows.sheetOneUptoRow.laid) (((Rows.OpenSpec.upto Rows.sheetOneSpec).at F).post enc Tryd.prog Tryd.f4 false true false false) := by
  obtain ⟨places, hx⟩ := reads os enc
  refine returnsInHanded_of_row (C := Tryd.checked) (s := Rows.OpenSpec.upto Rows.sheetOneSpec) own_knob started (by kernel_rfl) Tryd.func4
    (witness_row_at (enc := enc) (C := Tryd.checked) false (laidWorld os) wArgs rfl (by kernel_rfl) (by kernel_rfl) (by kernel_rfl)
      (OpenSpec.preRow_of_cond 8 hx (by kernel_rfl) (fun k hk => by cases hk; kernel_rfl) (by kernel_rfl) (laid_met os))) ?_
  intro W base args ds gs before hval hW _ hcond _ hL _ _
  exact contract H enc W base args ds gs before hval hW hL (hcond _ rfl)
theorem saidUpto : Rows.SheetOneUptoSaid :=
  OpenClaim.holds_of_cond 4 Tryd.f4 rfl rfl rfl rfl rfl rfl rfl ⟨rfl, rfl, rfl, rfl, rfl⟩ rfl rfl rfl rfl rfl (by kernel_rfl) Tryd.func4 (by kernel_rfl)
    (of_decide_eq_true (by kernel_rfl)) (by unfold Func.isWrapper; first | (rw [if_pos (by decide +kernel)]; kernel_rfl) | (rw [if_neg (by decide +kernel)]; exact ⟨rfl, rfl⟩))
    (fun os started H enc _ F => by rw [OpenClaim.pre_eq_preRow]; exact liftedUpto os started H enc F)
theorem plain (f : FuncId) (fn : Func) (hf : Tryd.pinned.checked.prog.funcNamed "rebus/rebuslaw23.SheetOne" = some f) (hfn : Tryd.pinned.checked.prog.funcs[f]? = some fn) :
    false = Tryd.pinned.checked.prog.looks [] ∧ ∀ (j : Nat) t, fn.params[j]? = some t → Tryd.pinned.checked.prog.wantsStandIn t = false := by
  obtain rfl : f = 4 := Option.some.inj ((show Tryd.prog.funcNamed "rebus/rebuslaw23.SheetOne" = some 4 by kernel_rfl).symm.trans hf) |>.symm
  obtain rfl : fn = Tryd.f4 := (Option.some.inj (Tryd.func4.symm.trans hfn)).symm
  refine ⟨by kernel_rfl, fun j t ht => ?_⟩
  rw [Tryd.params4] at ht
  have hm : t ∈ #[27, 30, 36] := Array.mem_of_getElem? ht
  simp only [List.mem_toArray, List.mem_cons, List.not_mem_nil, or_false] at hm
  rcases hm with rfl | rfl | rfl
  · exact (show Tryd.prog.wantsStandIn 27 = false by kernel_rfl)
  · exact (show Tryd.prog.wantsStandIn 30 = false by kernel_rfl)
  · exact (show Tryd.prog.wantsStandIn 36 = false by kernel_rfl)
theorem cardUpto : Rows.SheetOneUptoCardSaid :=
  Claim7.holds_tied_plain_at .later [] _ _ _ _ saidUpto (fun _ h => by cases h) (by kernel_rfl) (fun _ h => by cases h) sheetOneUpto_row_tie rfl ⟨rfl, rfl⟩ (by kernel_rfl) rfl plain (by kernel_rfl)
end Go.Proofs.YtiipailmldbpbaaDoor.one
end
#print axioms Go.Proofs.YtiipailmldbpbaaDoor.one.cardUpto
