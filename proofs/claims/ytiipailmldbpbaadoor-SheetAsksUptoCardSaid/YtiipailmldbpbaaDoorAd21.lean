/-
  SheetAsks, WHERE WHAT IT READS IS OF BULK AT MOST 1048576: IT RETURNS true (Start, Check, Wrong and Done are the document's), AND ITS ARGUMENTS READ AS THEY DID. The card ties utf8's two tables to the program's text.
-/
import Derived.Test.YtiipailmldbpbaaDoorCards
import Derived.Test.YtiipailmldbpbaaDoorTie
import Derived.Test.YtiipailmldbpbaaDoorAd14
import Derived.Test.YtiipailmldbpbaaDoorAd20
set_option linter.unusedVariables false
set_option linter.unusedSimpArgs false
section
namespace Go.Proofs.YtiipailmldbpbaaDoor.Q
open Go.RowKit Go.Proofs.YtiipailmldbpbaaDoorW.PrintWords Go.Proofs.YtiipailmldbpbaaDoorW.PrintLast Go.Proofs.YtiipailmldbpbaaDoorW.PrintMore
set_option linter.unusedVariables false
set_option linter.unusedSimpArgs false
open Go.Proofs.YtiipailmldbpbaaDoorS
theorem sstart_len {title : ByteArray} {H W : Int} {bl ri be : List Bool} {cells clues tc : List ByteArray} {ts : List Bool} {ta er : Int} {td : Bool} (h : sstart title H W bl ri be cells clues = (tc, ts, ta, td, er)) (hl : cells.length ≤ 1048576) : tc.length ≤ 1048576 ∧ ts.length ≤ 1048576 := by
  unfold sstart at h
  split at h
  · split at h
    · cases h; exact ⟨by simp, by simp⟩
    · cases h; exact ⟨by simpa using hl, by simpa using hl⟩
  · cases h; exact ⟨by simp, by simp⟩
theorem wrongs_len (cells sc : List ByteArray) : ∀ d i, (wrongs cells sc d i).length ≤ d
  | 0, _ => Nat.le_refl _
  | d + 1, i => by
    have := wrongs_len cells sc d (i + 1)
    simp only [wrongs]
    split
    · omega
    · split
      · omega
      · split
        · omega
        · simp only [List.length_cons]; omega
theorem swrong_len {title : ByteArray} {H W : Int} {bl ri be : List Bool} {cells clues sc : List ByteArray} {ss : List Bool} {at_ : Int} {l : List Int} {e : Int} (h : swrong title H W bl ri be cells clues sc ss at_ = (l, e)) (hl : sc.length ≤ 1048576) : l.length ≤ 1048576 := by
  unfold swrong at h
  split at h
  · cases h; have := wrongs_len cells sc sc.length 0; omega
  · cases h; simp
set_option maxHeartbeats 8000000 in
set_option maxRecDepth 1000000 in
theorem SheetAsks.calls {title : ByteArray} {H W : Int} {A2 : Option Addr} {c2 : Nat} {bl : List Bool} {A3 : Option Addr} {c3 : Nat} {ri : List Bool} {A4 : Option Addr} {c4 : Nat} {be : List Bool} {A5 : Option Addr} {c5 : Nat} {cells : List ByteArray} {A6 : Option Addr} {c6 : Nat} {clues : List ByteArray} {A7 : Option Addr} {c7 : Nat} {sc : List ByteArray} {A8 : Option Addr} {c8 : Nat} {ss : List Bool} {at_ : Int} {dn : Bool} {w : World} (hT : Tabs w) (hP : PuzR A2 c2 bl A3 c3 ri A4 c4 be A5 c5 cells A6 c6 clues w) (hS : ShtR A7 c7 sc A8 c8 ss w) (hz : PuzS title cells clues) (hzs : Small sc) (hsl : sc.length ≤ 1048576) :
    Calls Tryd.prog 5 #[.agg #[.string title, .int .i64 H, .int .i64 W, .slice A2 bl.length c2, .slice A3 ri.length c3, .slice A4 be.length c4, .slice A5 cells.length c5, .slice A6 clues.length c6], .agg #[.slice A7 sc.length c7, .slice A8 ss.length c8, .int .i64 at_, .bool dn]] w fun e w' => e = .returned (.bool true) ∧ Below w.heap.size w w' := by
  have hx := box2 w (.cells #[.string title, .int .i64 H, .int .i64 W, .slice A2 bl.length c2, .slice A3 ri.length c3, .slice A4 be.length c4, .slice A5 cells.length c5, .slice A6 clues.length c6] 27) (.cells #[.slice A7 sc.length c7, .slice A8 ss.length c8, .int .i64 at_, .bool dn] 30)
  replace hx := Lib.hid hx
  have hu27 := Tryd.underlying27
  have hu24 := Tryd.underlying24
  have hu30 := Tryd.underlying30
  obtain ⟨tc, ts, ta, td, er, hr⟩ : ∃ tc ts ta td er, sstart title H W bl ri be cells clues = (tc, ts, ta, td, er) := ⟨_, _, _, _, _, rfl⟩
  have hln := Lib.hid (sstart_len hr hz.l)
  obtain ⟨ec, hec⟩ : ∃ x, scheck title H W bl ri be cells clues sc ss at_ = x := ⟨_, rfl⟩
  obtain ⟨bd, hbd⟩ : ∃ x, sdone title H W bl ri be cells clues sc ss at_ = x := ⟨_, rfl⟩
  obtain ⟨wl, we, hwr⟩ : ∃ l e, swrong title H W bl ri be cells clues sc ss at_ = (l, e) := ⟨_, _, rfl⟩
  have hwl := Lib.hid (swrong_len hwr hsl)
  replace hr := Lib.hid hr
  replace hec := Lib.hid hec
  replace hbd := Lib.hid hbd
  replace hwr := Lib.hid hwr
  have te : (er != er) = false := by simp
  have te2 : (ec != ec) = false := by simp
  have te3 : (bd != bd) = false := by simp
  have te4 : (we == we) = true := by simp
  have te5 : (bd == bd) = true := by simp
  go_enter Tryd.func5, Tryd.ntmps5
  go_wp2_with (first
    | (go_at_call 7; go_must (refine (rebuslaw23_awake.calls _ (tabs_below hT hx.out.2.2)).mono ?_; rintro e w3 ⟨rfl, hb3⟩; have bP := Lib.hid (blk_below hx.out.1 hb3); have bS := Lib.hid (blk_below hx.out.2.1 hb3); have hB3 := Lib.hid (below_step hx.out.2.2 hb3); have p3 := cells8 bP.out; clear hb3))
    | (go_at_call 8; go_must (refine (start_calls (tabs_below hT hB3.out) (hP.below hB3.out) hz).mono ?_; rintro e w4 hD; obtain ⟨v0, v1, rfl, r0, r1, hb4⟩ := hD.opened hr.out; clear hD; obtain ⟨B0, k0, rfl, kk0, C0⟩ := Kd.R_reads r0; obtain ⟨B1, k1, rfl, kk1, C1⟩ := Kd.R_reads r1; have hSn := Lib.hid (ShtR.mk C0 kk0 C1 kk1); clear r0 r1 C0 C1 kk0 kk1; have bP4 := Lib.hid (blk_below bP.out hb4); have bS4 := Lib.hid (blk_below bS.out hb4); have hB4 := Lib.hid (below_step hB3.out hb4); have p4 := cells8 bP4.out; have y4 := blk_lt bP4.out; clear hb4 p3)))
  have bT5 := blk_new w4 (.cells #[.slice B0 tc.length k0, .slice B1 ts.length k1, .int .i64 ta, .bool td] 30)
  have bP5 := Lib.hid (blk_alloc bP4.out (.cells #[.slice B0 tc.length k0, .slice B1 ts.length k1, .int .i64 ta, .bool td] 30))
  have bS5 := Lib.hid (blk_alloc bS4.out (.cells #[.slice B0 tc.length k0, .slice B1 ts.length k1, .int .i64 ta, .bool td] 30))
  have hB5 := Lib.hid (below_alloc hB4.out (.cells #[.slice B0 tc.length k0, .slice B1 ts.length k1, .int .i64 ta, .bool td] 30))
  have hS1 := Lib.hid (hSn.out.below (below_alloc (Below.refl _ _) (.cells #[.slice B0 tc.length k0, .slice B1 ts.length k1, .int .i64 ta, .bool td] 30)))
  have p5 := cells8 bP5.out
  generalize w4.alloc (.cells #[.slice B0 tc.length k0, .slice B1 ts.length k1, .int .i64 ta, .bool td] 30) = w5 at bT5 bP5 bS5 hB5 hS1 p5 ⊢
  generalize w4.heap.size = bt at bT5 ⊢
  replace bT5 := Lib.hid bT5
  clear y4 p4 bP4 bS4 hB4 hSn bP bS hB3
  go_wp2_with (first
    | (go_at_call 11; go_must (refine (rebusref23_Start.calls (hP.below hB5.out) hz).mono ?_; rintro e w6 hD; obtain ⟨v2, v3, rfl, r0, r1, hb4⟩ := hD.opened hr.out; clear hD; obtain ⟨B2, k2, rfl, kk0, C0⟩ := Kd.R_reads r0; obtain ⟨B3, k3, rfl, kk1, C1⟩ := Kd.R_reads r1; have hSn := Lib.hid (ShtR.mk C0 kk0 C1 kk1); clear r0 r1 C0 C1 kk0 kk1; have bP6 := Lib.hid (blk_below bP5.out hb4); have bS6 := Lib.hid (blk_below bS5.out hb4); have bT6 := Lib.hid (blk_below bT5.out hb4); have hB6 := Lib.hid (below_step hB5.out hb4); have hS16 := Lib.hid (hS1.out.below hb4); have y6 := blk_lt bP6.out; have y6s := blk_lt bS6.out; have y6t := blk_lt bT6.out; clear hb4 p5)))
  have bU7 := blk_new w6 (.cells #[.slice B2 tc.length k2, .slice B3 ts.length k3, .int .i64 ta, .bool td] 30)
  have bP7 := Lib.hid (blk_alloc bP6.out (.cells #[.slice B2 tc.length k2, .slice B3 ts.length k3, .int .i64 ta, .bool td] 30))
  have bS7 := Lib.hid (blk_alloc bS6.out (.cells #[.slice B2 tc.length k2, .slice B3 ts.length k3, .int .i64 ta, .bool td] 30))
  have bT7 := Lib.hid (blk_alloc bT6.out (.cells #[.slice B2 tc.length k2, .slice B3 ts.length k3, .int .i64 ta, .bool td] 30))
  have hB7 := Lib.hid (below_alloc hB6.out (.cells #[.slice B2 tc.length k2, .slice B3 ts.length k3, .int .i64 ta, .bool td] 30))
  have hS2 := Lib.hid (hSn.out.below (below_alloc (Below.refl _ _) (.cells #[.slice B2 tc.length k2, .slice B3 ts.length k3, .int .i64 ta, .bool td] 30)))
  have hS17 := Lib.hid (hS16.out.below (below_alloc (Below.refl _ _) (.cells #[.slice B2 tc.length k2, .slice B3 ts.length k3, .int .i64 ta, .bool td] 30)))
  generalize w6.alloc (.cells #[.slice B2 tc.length k2, .slice B3 ts.length k3, .int .i64 ta, .bool td] 30) = w7 at bU7 bP7 bS7 bT7 hB7 hS2 hS17 ⊢
  generalize w6.heap.size = bu at bU7 ⊢
  replace bU7 := Lib.hid bU7
  clear hS1 hS16 hSn bP6 bS6 bT6 hB6 bP5 bS5 bT5 hB5 hx
  have hS1 := hS17
  clear hS17 y6 y6s y6t
  have p7 := cells8 bP7.out
  have s7 := cells4 bS7.out
  have t7 := cells4 bT7.out
  have u7 := cells4 bU7.out
  go_wp2
  refine start_ (n := 27) (S := fun w' => (w'.cell? ⟨w.heap.size, 0, none⟩ = some (.string title) ∧ w'.cell? ⟨w.heap.size, 1, none⟩ = some (.int .i64 H) ∧ w'.cell? ⟨w.heap.size, 2, none⟩ = some (.int .i64 W) ∧ w'.cell? ⟨w.heap.size, 3, none⟩ = some (.slice A2 bl.length c2) ∧ w'.cell? ⟨w.heap.size, 4, none⟩ = some (.slice A3 ri.length c3) ∧ w'.cell? ⟨w.heap.size, 5, none⟩ = some (.slice A4 be.length c4) ∧ w'.cell? ⟨w.heap.size, 6, none⟩ = some (.slice A5 cells.length c5) ∧ w'.cell? ⟨w.heap.size, 7, none⟩ = some (.slice A6 clues.length c6)) ∧ (w'.cell? ⟨w.heap.size + 1, 0, none⟩ = some (.slice A7 sc.length c7) ∧ w'.cell? ⟨w.heap.size + 1, 1, none⟩ = some (.slice A8 ss.length c8) ∧ w'.cell? ⟨w.heap.size + 1, 2, none⟩ = some (.int .i64 at_) ∧ w'.cell? ⟨w.heap.size + 1, 3, none⟩ = some (.bool dn)) ∧ (w'.cell? ⟨bt, 0, none⟩ = some (.slice B0 tc.length k0) ∧ w'.cell? ⟨bt, 1, none⟩ = some (.slice B1 ts.length k1) ∧ w'.cell? ⟨bt, 2, none⟩ = some (.int .i64 ta) ∧ w'.cell? ⟨bt, 3, none⟩ = some (.bool td)) ∧ (w'.cell? ⟨bu, 0, none⟩ = some (.slice B2 tc.length k2) ∧ w'.cell? ⟨bu, 1, none⟩ = some (.slice B3 ts.length k3) ∧ w'.cell? ⟨bu, 2, none⟩ = some (.int .i64 ta) ∧ w'.cell? ⟨bu, 3, none⟩ = some (.bool td))) (ds := []) #[false, false, false, false, false, false, false, false, false, false, false, false, false, false, false, false, false, false, false, false, false, false, false, false, false, false, false] (by kernel_rfl) rfl rfl ⟨cells8 (blk_drew bP7.out), cells4 (blk_drew bS7.out), cells4 (blk_drew bT7.out), cells4 (blk_drew bU7.out)⟩ (fun hHeld => ?_)
  have bP := blk_drew bP7.out
  have bS := blk_drew bS7.out
  have bT := blk_drew bT7.out
  have bU := blk_drew bU7.out
  have hB := below_drew hB7.out
  have hR1 := (hS1.out.below (below_drew (Below.refl _ _)))
  have hR2 := (hS2.out.below (below_drew (Below.refl _ _)))
  generalize w7.drew = w8 at bP bS bT bU hB hR1 hR2 hHeld ⊢
  clear bP7 bS7 bT7 bU7 hB7 hS1 hS2 p7 s7 t7 u7
  refine pure_ (i := 0) (N := some 23) (v := ?_) (a' := ?_) #[true, false, false, false, false, false, false, false, false, false, false, false, false, false, false, false, false, false, false, false, false, false, false, false, false, false, false] rfl rfl (by kernel_rfl) (fun _ _ _ h => h) (Or.inl ⟨by rfl, ?_⟩) ?_ ?_
  rotate_left
  · intro w'; go_simp; try with_reducible rfl
  rotate_left
  · simp only [Act.put, List.setIfInBounds_toArray, List.set_cons_zero, List.set_cons_succ, i64_w, i32_w]; rfl
  refine pure_ (i := 1) (N := some 24) (v := ?_) (a' := ?_) #[true, true, false, false, false, false, false, false, false, false, false, false, false, false, false, false, false, false, false, false, false, false, false, false, false, false, false] rfl rfl (by kernel_rfl) (fun _ _ _ h => h) (Or.inl ⟨by rfl, ?_⟩) ?_ ?_
  rotate_left
  · intro w'; go_simp; try with_reducible rfl
  rotate_left
  · simp only [Act.put, List.setIfInBounds_toArray, List.set_cons_zero, List.set_cons_succ, i64_w, i32_w]; rfl
  refine pure_ (i := 2) (N := some 25) (v := ?_) (a' := ?_) #[true, true, true, false, false, false, false, false, false, false, false, false, false, false, false, false, false, false, false, false, false, false, false, false, false, false, false] rfl rfl (by kernel_rfl) (fun _ _ _ h => h) (Or.inl ⟨by rfl, ?_⟩) ?_ ?_
  rotate_left
  · intro w'; go_simp; try with_reducible rfl
  rotate_left
  · simp only [Act.put, List.setIfInBounds_toArray, List.set_cons_zero, List.set_cons_succ, i64_w, i32_w]; rfl
  refine pure_ (i := 3) (N := some 26) (v := ?_) (a' := ?_) #[true, true, true, true, false, false, false, false, false, false, false, false, false, false, false, false, false, false, false, false, false, false, false, false, false, false, false] rfl rfl (by kernel_rfl) (fun _ _ _ h => h) (Or.inl ⟨by rfl, ?_⟩) ?_ ?_
  rotate_left
  · intro w'; go_simp; try with_reducible rfl
  rotate_left
  · simp only [Act.put, List.setIfInBounds_toArray, List.set_cons_zero, List.set_cons_succ, i64_w, i32_w]; rfl
  refine take_ (i := 4) (N := some 27) (v := ?_) (a' := ?_) #[true, true, true, true, true, false, false, false, false, false, false, false, false, false, false, false, false, false, false, false, false, false, false, false, false, false, false] rfl rfl (by kernel_rfl) (fun _ _ _ h => h) (Or.inl ⟨by rfl, ?_⟩) hHeld ?_ ?_
  rotate_left
  · intro w' s0; (try dsimp only at s0); obtain ⟨s1, s2, s3, s4⟩ := s0; go_simp; try with_reducible rfl
  rotate_left
  · simp only [Act.put, List.setIfInBounds_toArray, List.set_cons_zero, List.set_cons_succ, i64_w, i32_w]; rfl
  refine take_ (i := 5) (N := some 28) (v := ?_) (a' := ?_) #[true, true, true, true, true, true, false, false, false, false, false, false, false, false, false, false, false, false, false, false, false, false, false, false, false, false, false] rfl rfl (by kernel_rfl) (fun _ _ _ h => h) (Or.inl ⟨by rfl, ?_⟩) hHeld ?_ ?_
  rotate_left
  · intro w' s0; (try dsimp only at s0); obtain ⟨s1, s2, s3, s4⟩ := s0; go_simp; try with_reducible rfl
  rotate_left
  · simp only [Act.put, List.setIfInBounds_toArray, List.set_cons_zero, List.set_cons_succ, i64_w, i32_w]; rfl
  refine one_ (i := 6) (N := some 29) #[true, true, true, true, true, true, true, false, false, false, false, false, false, false, false, false, false, false, false, false, false, false, false, false, false, false, false] rfl rfl (by kernel_rfl) (by decide) (fun K hK => ?_)
  refine goes_ Tryd.func12 (by kernel_rfl) rfl #[.agg #[.slice B0 tc.length k0, .slice B1 ts.length k1, .int .i64 ta, .bool td], .agg #[.slice B2 tc.length k2, .slice B3 ts.length k3, .int .i64 ta, .bool td]] (by rfl) rfl rfl (by first | (go_simp; done) | (go_simp; rfl) | rfl) ?_
  refine (rebusref23_Same.calls hln.out.1 hln.out.2 hR1 hR2).mono ?_
  rintro e w9 ⟨rfl, hb⟩
  have bP := blk_below bP hb
  have bS := blk_below bS hb
  have bT := blk_below bT hb
  have bU := blk_below bU hb
  have hB := below_step hB hb
  clear hb
  refine ⟨_, rfl, ?_⟩
  refine hK.out _ _ ⟨cells8 bP, cells4 bS, cells4 bT, cells4 bU⟩ (fun hHeld => ?_)
  clear hK K
  refine norm_ (a' := ?_) ?_ ?_
  rotate_left
  · show Act.put _ (some 29) _ = _
    simp only [Act.put, List.setIfInBounds_toArray, List.set_cons_zero, List.set_cons_succ, i64_w, i32_w]
    rfl
  clear hR1 hR2
  refine pure_ (i := 7) (N := some 30) (v := ?_) (a' := ?_) #[true, true, true, true, true, true, true, true, false, false, false, false, false, false, false, false, false, false, false, false, false, false, false, false, false, false, false] rfl rfl (by kernel_rfl) (fun _ _ _ h => h) (Or.inl ⟨by rfl, ?_⟩) ?_ ?_
  rotate_left
  · intro w'; go_simp; try with_reducible rfl
  rotate_left
  · simp only [Act.put, List.setIfInBounds_toArray, List.set_cons_zero, List.set_cons_succ, i64_w, i32_w]; rfl
  refine pure_ (i := 8) (N := some 31) (v := ?_) (a' := ?_) #[true, true, true, true, true, true, true, true, true, false, false, false, false, false, false, false, false, false, false, false, false, false, false, false, false, false, false] rfl rfl (by kernel_rfl) (fun _ _ _ h => h) (Or.inl ⟨by rfl, ?_⟩) ?_ ?_
  rotate_left
  · intro w'; go_simp; try with_reducible rfl
  rotate_left
  · simp only [Act.put, List.setIfInBounds_toArray, List.set_cons_zero, List.set_cons_succ, i64_w, i32_w]; rfl
  refine pure_ (i := 9) (N := some 32) (v := ?_) (a' := ?_) #[true, true, true, true, true, true, true, true, true, true, false, false, false, false, false, false, false, false, false, false, false, false, false, false, false, false, false] rfl rfl (by kernel_rfl) (fun _ _ _ h => h) (Or.inl ⟨by rfl, ?_⟩) ?_ ?_
  rotate_left
  · intro w'; go_simp; try with_reducible rfl
  rotate_left
  · simp only [Act.put, List.setIfInBounds_toArray, List.set_cons_zero, List.set_cons_succ, i64_w, i32_w]; rfl
  refine take_ (i := 10) (N := some 33) (v := ?_) (a' := ?_) #[true, true, true, true, true, true, true, true, true, true, true, false, false, false, false, false, false, false, false, false, false, false, false, false, false, false, false] rfl rfl (by kernel_rfl) (fun _ _ _ h => h) (Or.inl ⟨by rfl, ?_⟩) hHeld ?_ ?_
  rotate_left
  · intro w' s0; (try dsimp only at s0); obtain ⟨s1, s2, s3, s4⟩ := s0; go_simp; try with_reducible rfl
  rotate_left
  · simp only [Act.put, List.setIfInBounds_toArray, List.set_cons_zero, List.set_cons_succ, i64_w, i32_w]; rfl
  refine take_ (i := 11) (N := some 34) (v := ?_) (a' := ?_) #[true, true, true, true, true, true, true, true, true, true, true, true, false, false, false, false, false, false, false, false, false, false, false, false, false, false, false] rfl rfl (by kernel_rfl) (fun _ _ _ h => h) (Or.inl ⟨by rfl, ?_⟩) hHeld ?_ ?_
  rotate_left
  · intro w' s0; (try dsimp only at s0); obtain ⟨s1, s2, s3, s4⟩ := s0; go_simp; try with_reducible rfl
  rotate_left
  · simp only [Act.put, List.setIfInBounds_toArray, List.set_cons_zero, List.set_cons_succ, i64_w, i32_w]; rfl
  refine take_ (i := 13) (N := some 36) (v := ?_) (a' := ?_) #[true, true, true, true, true, true, true, true, true, true, true, true, false, true, false, false, false, false, false, false, false, false, false, false, false, false, false] rfl rfl (by kernel_rfl) (fun _ _ _ h => h) (Or.inl ⟨by rfl, ?_⟩) hHeld ?_ ?_
  rotate_left
  · intro w' s0; (try dsimp only at s0); obtain ⟨s1, s2, s3, s4⟩ := s0; go_simp; try with_reducible rfl
  rotate_left
  · simp only [Act.put, List.setIfInBounds_toArray, List.set_cons_zero, List.set_cons_succ, i64_w, i32_w]; rfl
  refine take_ (i := 14) (N := some 37) (v := ?_) (a' := ?_) #[true, true, true, true, true, true, true, true, true, true, true, true, false, true, true, false, false, false, false, false, false, false, false, false, false, false, false] rfl rfl (by kernel_rfl) (fun _ _ _ h => h) (Or.inl ⟨by rfl, ?_⟩) hHeld ?_ ?_
  rotate_left
  · intro w' s0; (try dsimp only at s0); obtain ⟨s1, s2, s3, s4⟩ := s0; go_simp; try with_reducible rfl
  rotate_left
  · simp only [Act.put, List.setIfInBounds_toArray, List.set_cons_zero, List.set_cons_succ, i64_w, i32_w]; rfl
  refine one_ (i := 12) (N := some 35) #[true, true, true, true, true, true, true, true, true, true, true, true, true, true, true, false, false, false, false, false, false, false, false, false, false, false, false] rfl rfl (by kernel_rfl) (by decide) (fun K hK => ?_)
  refine goes_ Tryd.func13 (by kernel_rfl) rfl #[.agg #[.string title, .int .i64 H, .int .i64 W, .slice A2 bl.length c2, .slice A3 ri.length c3, .slice A4 be.length c4, .slice A5 cells.length c5, .slice A6 clues.length c6], .agg #[.slice A7 sc.length c7, .slice A8 ss.length c8, .int .i64 at_, .bool dn]] (by rfl) rfl rfl (by first | (go_simp; done) | (go_simp; rfl) | rfl) ?_
  refine (check_calls (tabs_below hT hB) (hP.below hB) (hS.below hB) hz hzs).mono ?_
  rintro e w10 ⟨rfl, hb⟩
  have bP := blk_below bP hb
  have bS := blk_below bS hb
  have bT := blk_below bT hb
  have bU := blk_below bU hb
  have hB := below_step hB hb
  clear hb
  refine ⟨_, rfl, ?_⟩
  refine hK.out _ _ ⟨cells8 bP, cells4 bS, cells4 bT, cells4 bU⟩ (fun hHeld => ?_)
  clear hK K
  refine norm_ (a' := ?_) ?_ ?_
  rotate_left
  · show Act.put _ (some 35) _ = _
    simp only [Act.put, List.setIfInBounds_toArray, List.set_cons_zero, List.set_cons_succ, i64_w, i32_w]
    rfl
  rw [hec.out]
  refine one_ (i := 15) (N := some 38) #[true, true, true, true, true, true, true, true, true, true, true, true, true, true, true, true, false, false, false, false, false, false, false, false, false, false, false] rfl rfl (by kernel_rfl) (by decide) (fun K hK => ?_)
  refine goes_ Tryd.func14 (by kernel_rfl) rfl #[.agg #[.string title, .int .i64 H, .int .i64 W, .slice A2 bl.length c2, .slice A3 ri.length c3, .slice A4 be.length c4, .slice A5 cells.length c5, .slice A6 clues.length c6], .agg #[.slice A7 sc.length c7, .slice A8 ss.length c8, .int .i64 at_, .bool dn]] (by rfl) rfl rfl (by first | (go_simp; done) | (go_simp; rfl) | rfl) ?_
  refine (rebusref23_Check.calls (hP.below hB) (hS.below hB) hz hzs).mono ?_
  rintro e w11 ⟨rfl, hb⟩
  have bP := blk_below bP hb
  have bS := blk_below bS hb
  have bT := blk_below bT hb
  have bU := blk_below bU hb
  have hB := below_step hB hb
  clear hb
  refine ⟨_, rfl, ?_⟩
  refine hK.out _ _ ⟨cells8 bP, cells4 bS, cells4 bT, cells4 bU⟩ (fun hHeld => ?_)
  clear hK K
  refine norm_ (a' := ?_) ?_ ?_
  rotate_left
  · show Act.put _ (some 38) _ = _
    simp only [Act.put, List.setIfInBounds_toArray, List.set_cons_zero, List.set_cons_succ, i64_w, i32_w]
    rfl
  rw [hec.out]
  refine pure_ (i := 16) (N := some 39) (v := ?_) (a' := ?_) #[true, true, true, true, true, true, true, true, true, true, true, true, true, true, true, true, true, false, false, false, false, false, false, false, false, false, false] rfl rfl (by kernel_rfl) (fun _ _ _ h => h) (Or.inl ⟨by rfl, ?_⟩) ?_ ?_
  rotate_left
  · intro w'; go_simp; try with_reducible rfl
  rotate_left
  · simp only [Act.put, List.setIfInBounds_toArray, List.set_cons_zero, List.set_cons_succ, i64_w, i32_w]; rfl
  refine pure_ (i := 17) (N := some 40) (v := ?_) (a' := ?_) #[true, true, true, true, true, true, true, true, true, true, true, true, true, true, true, true, true, true, false, false, false, false, false, false, false, false, false] rfl rfl (by kernel_rfl) (fun _ _ _ h => h) (Or.inl ⟨by rfl, ?_⟩) ?_ ?_
  rotate_left
  · intro w'; go_simp; try with_reducible rfl
  rotate_left
  · simp only [Act.put, List.setIfInBounds_toArray, List.set_cons_zero, List.set_cons_succ, i64_w, i32_w]; rfl
  refine pure_ (i := 18) (N := some 41) (v := ?_) (a' := ?_) #[true, true, true, true, true, true, true, true, true, true, true, true, true, true, true, true, true, true, true, false, false, false, false, false, false, false, false] rfl rfl (by kernel_rfl) (fun _ _ _ h => h) (Or.inl ⟨by rfl, ?_⟩) ?_ ?_
  rotate_left
  · intro w'; go_simp; try with_reducible rfl
  rotate_left
  · simp only [Act.put, List.setIfInBounds_toArray, List.set_cons_zero, List.set_cons_succ, i64_w, i32_w]; rfl
  refine take_ (i := 19) (N := some 42) (v := ?_) (a' := ?_) #[true, true, true, true, true, true, true, true, true, true, true, true, true, true, true, true, true, true, true, true, false, false, false, false, false, false, false] rfl rfl (by kernel_rfl) (fun _ _ _ h => h) (Or.inl ⟨by rfl, ?_⟩) hHeld ?_ ?_
  rotate_left
  · intro w' s0; (try dsimp only at s0); obtain ⟨s1, s2, s3, s4⟩ := s0; go_simp; try with_reducible rfl
  rotate_left
  · simp only [Act.put, List.setIfInBounds_toArray, List.set_cons_zero, List.set_cons_succ, i64_w, i32_w]; rfl
  refine take_ (i := 20) (N := some 43) (v := ?_) (a' := ?_) #[true, true, true, true, true, true, true, true, true, true, true, true, true, true, true, true, true, true, true, true, true, false, false, false, false, false, false] rfl rfl (by kernel_rfl) (fun _ _ _ h => h) (Or.inl ⟨by rfl, ?_⟩) hHeld ?_ ?_
  rotate_left
  · intro w' s0; (try dsimp only at s0); obtain ⟨s1, s2, s3, s4⟩ := s0; go_simp; try with_reducible rfl
  rotate_left
  · simp only [Act.put, List.setIfInBounds_toArray, List.set_cons_zero, List.set_cons_succ, i64_w, i32_w]; rfl
  refine take_ (i := 22) (N := some 45) (v := ?_) (a' := ?_) #[true, true, true, true, true, true, true, true, true, true, true, true, true, true, true, true, true, true, true, true, true, false, true, false, false, false, false] rfl rfl (by kernel_rfl) (fun _ _ _ h => h) (Or.inl ⟨by rfl, ?_⟩) hHeld ?_ ?_
  rotate_left
  · intro w' s0; (try dsimp only at s0); obtain ⟨s1, s2, s3, s4⟩ := s0; go_simp; try with_reducible rfl
  rotate_left
  · simp only [Act.put, List.setIfInBounds_toArray, List.set_cons_zero, List.set_cons_succ, i64_w, i32_w]; rfl
  refine take_ (i := 23) (N := some 46) (v := ?_) (a' := ?_) #[true, true, true, true, true, true, true, true, true, true, true, true, true, true, true, true, true, true, true, true, true, false, true, true, false, false, false] rfl rfl (by kernel_rfl) (fun _ _ _ h => h) (Or.inl ⟨by rfl, ?_⟩) hHeld ?_ ?_
  rotate_left
  · intro w' s0; (try dsimp only at s0); obtain ⟨s1, s2, s3, s4⟩ := s0; go_simp; try with_reducible rfl
  rotate_left
  · simp only [Act.put, List.setIfInBounds_toArray, List.set_cons_zero, List.set_cons_succ, i64_w, i32_w]; rfl
  refine one_ (i := 21) (N := some 44) #[true, true, true, true, true, true, true, true, true, true, true, true, true, true, true, true, true, true, true, true, true, true, true, true, false, false, false] rfl rfl (by kernel_rfl) (by decide) (fun K hK => ?_)
  refine goes_ Tryd.func10 (by kernel_rfl) rfl #[.agg #[.string title, .int .i64 H, .int .i64 W, .slice A2 bl.length c2, .slice A3 ri.length c3, .slice A4 be.length c4, .slice A5 cells.length c5, .slice A6 clues.length c6], .agg #[.slice A7 sc.length c7, .slice A8 ss.length c8, .int .i64 at_, .bool dn]] (by rfl) rfl rfl (by first | (go_simp; done) | (go_simp; rfl) | rfl) ?_
  refine (done_calls (tabs_below hT hB) (hP.below hB) (hS.below hB) hz hzs).mono ?_
  rintro e w12 ⟨rfl, hb⟩
  have bP := blk_below bP hb
  have bS := blk_below bS hb
  have bT := blk_below bT hb
  have bU := blk_below bU hb
  have hB := below_step hB hb
  clear hb
  refine ⟨_, rfl, ?_⟩
  refine hK.out _ _ ⟨cells8 bP, cells4 bS, cells4 bT, cells4 bU⟩ (fun hHeld => ?_)
  clear hK K
  refine norm_ (a' := ?_) ?_ ?_
  rotate_left
  · show Act.put _ (some 44) _ = _
    simp only [Act.put, List.setIfInBounds_toArray, List.set_cons_zero, List.set_cons_succ, i64_w, i32_w]
    rfl
  rw [hbd.out]
  refine one_ (i := 24) (N := some 47) #[true, true, true, true, true, true, true, true, true, true, true, true, true, true, true, true, true, true, true, true, true, true, true, true, true, false, false] rfl rfl (by kernel_rfl) (by decide) (fun K hK => ?_)
  refine goes_ Tryd.func15 (by kernel_rfl) rfl #[.agg #[.string title, .int .i64 H, .int .i64 W, .slice A2 bl.length c2, .slice A3 ri.length c3, .slice A4 be.length c4, .slice A5 cells.length c5, .slice A6 clues.length c6], .agg #[.slice A7 sc.length c7, .slice A8 ss.length c8, .int .i64 at_, .bool dn]] (by rfl) rfl rfl (by first | (go_simp; done) | (go_simp; rfl) | rfl) ?_
  refine (rebusref23_Done.calls (hP.below hB) (hS.below hB) hz hzs).mono ?_
  rintro e w13 ⟨rfl, hb⟩
  have bP := blk_below bP hb
  have bS := blk_below bS hb
  have bT := blk_below bT hb
  have bU := blk_below bU hb
  have hB := below_step hB hb
  clear hb
  refine ⟨_, rfl, ?_⟩
  refine hK.out _ _ ⟨cells8 bP, cells4 bS, cells4 bT, cells4 bU⟩ (fun hHeld => ?_)
  clear hK K
  refine norm_ (a' := ?_) ?_ ?_
  rotate_left
  · show Act.put _ (some 47) _ = _
    simp only [Act.put, List.setIfInBounds_toArray, List.set_cons_zero, List.set_cons_succ, i64_w, i32_w]
    rfl
  rw [hbd.out]
  refine pure_ (i := 25) (N := some 48) (v := ?_) (a' := ?_) #[true, true, true, true, true, true, true, true, true, true, true, true, true, true, true, true, true, true, true, true, true, true, true, true, true, true, false] rfl rfl (by kernel_rfl) (fun _ _ _ h => h) (Or.inl ⟨by rfl, ?_⟩) ?_ ?_
  rotate_left
  · intro w'; go_simp; try with_reducible rfl
  rotate_left
  · simp only [Act.put, List.setIfInBounds_toArray, List.set_cons_zero, List.set_cons_succ, i64_w, i32_w]; rfl
  refine pure_ (i := 26) (N := some 49) (v := ?_) (a' := ?_) #[true, true, true, true, true, true, true, true, true, true, true, true, true, true, true, true, true, true, true, true, true, true, true, true, true, true, true] rfl rfl (by kernel_rfl) (fun _ _ _ h => h) (Or.inl ⟨by rfl, ?_⟩) ?_ ?_
  rotate_left
  · intro w'; go_simp; try with_reducible rfl
  rotate_left
  · simp only [Act.put, List.setIfInBounds_toArray, List.set_cons_zero, List.set_cons_succ, i64_w, i32_w]; rfl
  refine done_ (by kernel_rfl) ?_
  clear bT bU hHeld
  have p8 := cells8 bP
  have s8 := cells4 bS
  go_wp2_with (first
    | (go_at_call 16; go_must (refine (wrong_calls (tabs_below hT hB) (hP.below hB) (hS.below hB) hz hzs).mono ?_; rintro e w14 ⟨v, rfl, r0, hb4⟩; rw [hwr.out] at r0; rw [hwr.out]; obtain ⟨D0, d0, rfl, kk0, C0⟩ := Kd.R_reads r0; dsimp only; have hC1 := Lib.hid C0; have bP := blk_below bP hb4; have bS := blk_below bS hb4; have hBo := Lib.hid hb4; have hB := below_step hB hb4; have p8 := cells8 bP; have s8 := cells4 bS; clear r0 C0 kk0 hb4 ))
    | (go_at_call 17; go_must (refine (rebusref23_Wrong.calls (hP.below hB) (hS.below hB) hz hzs).mono ?_; rintro e w15 ⟨v, rfl, r0, hb4⟩; rw [hwr.out] at r0; rw [hwr.out]; obtain ⟨D1, d1, rfl, kk0, C0⟩ := Kd.R_reads r0; dsimp only; have hC2 := Lib.hid C0; have bP := blk_below bP hb4; have bS := blk_below bS hb4; have hBo := Lib.hid hb4; have hB := below_step hB hb4; have p8 := cells8 bP; have s8 := cells4 bS; clear r0 C0 kk0 hb4 ))
    | (go_at_call 18; go_must (refine (rebusref01_SameInts.calls hwl.out (Kd.C_below hC1.out hBo.out) hC2.out).mono ?_; rintro e w16 ⟨rfl, hb5⟩)))
  go_ret
  exact ⟨rfl, below_step hB hb5⟩
end Go.Proofs.YtiipailmldbpbaaDoor.Q
end
section
namespace Go.Proofs.YtiipailmldbpbaaDoor.asks
open Go.ChangeShapes Go.WideShapes Go.ChangeAt Go.RowKit Go.Joins
open Go.Proofs.YtiipailmldbpbaaDoor.Q Go.Proofs.YtiipailmldbpbaaDoorS
set_option maxRecDepth 100000
def wArgs : Array Value := #[.agg #[.string ⟨#[]⟩, .int .i64 0, .int .i64 0, .slice none 0 0, .slice none 0 0, .slice none 0 0, .slice none 0 0, .slice none 0 0], .agg #[.slice none 0 0, .slice none 0 0, .int .i64 0, .bool false]]
def wData {H : Type} : List (DataW H) := [.agg [.lit (.string []), .agg [.lit (.int .i64 0), .lit (.int .i64 0), .nil, .nil, .nil], .nil, .nil], .agg [.nil, .nil, .lit (.int .i64 0), .lit (.bool false)]]
theorem laid_met (os : Os) : laidMet Tryd.prog Rows.sheetAsksUptoRow.laid ((laidWorld os).forCall (fun _ _ => 0) ⟨#[], wArgs, []⟩).memory :=
  laidMet_of_run' 8 (by kernel_rfl) (by kernel_rfl)
theorem reads (os : Os) {H : Type} (enc : TypeId × Value → H) : ∃ places, DataW.whole enc Tryd.prog ((laidWorld os).forCall (fun _ _ => 0) ⟨#[], wArgs, []⟩).memory Tryd.f5.params.toList Rows.sheetAsksSpec.vars false wArgs.toList 8 = some (wData, [], places) :=
  ⟨[], by kernel_rfl⟩
theorem contract (H : Type) (enc : TypeId × Value → H) (W : World) (base : Nat) (args : Array Value) (ds gs : List (DataW H)) (before : List MemPlace)
    (hval : ∀ (j : Nat) t v, Tryd.f5.params[j]? = some t → args[j]? = some v → Value.okWide Tryd.prog W .any base t v)
    (hW : DataW.Whole enc Tryd.prog Tryd.f5.params.toList Rows.sheetAsksSpec.vars false W args.toList ds gs before) (hL : laidMetH Tryd.prog Rows.sheetAsksUptoRow.laid W) (hk : Rows.uptoSmall H (ds ++ gs) = true) :
    Calls Tryd.prog 5 args W fun e W' => ∃ v, e = .returned v ∧ Rows.sheetAsksSpec.post enc Tryd.prog Tryd.f5 false true false false W args v W' := by
  have hW' := hW
  obtain ⟨p, q, hA0, hV, rfl, hfz, hnd⟩ := hW
  have hA : DataW.TrodAll enc Tryd.prog W 0 (fun _ => true) true Tryd.f5.params.toList args.toList ds p := hA0
  rw [Tryd.params5] at hA hval
  obtain ⟨v0, v1, d0, d1, p0, p1, rfl, rfl, rfl, h0, h1⟩ := trodAll_two hA
  obtain ⟨rfl, rfl⟩ := trodVars_none hV
  simp only [List.append_nil] at hk
  have hb := bulk_bound hk
  simp only [Rows.uptoBulkAll] at hb
  obtain ⟨title, Hh, Ww, A2, c2, bl, A3, c3, ri, A4, c4, be, A5, c5, cells, A6, c6, clues, rfl, hP, hz⟩ := open_puzzle (hval 0 27 v0 rfl rfl) h0
  obtain ⟨A7, c7, sc, A8, c8, ss, at_, dn, rfl, hS, hat, hs⟩ := open_sheet (hval 1 30 v1 rfl rfl) h1
  obtain ⟨hs1, hs2⟩ := hs (by omega)
  refine (SheetAsks.calls (tabs_of_laid hL) hP hS (hz (by omega)) hs1 hs2).mono fun e W' ⟨he, hbel⟩ => ?_
  subst he
  have hlt : ∀ x ∈ p0 ++ (p1), x.block < W.heap.size := fun x hx => hW'.lt x (by simpa using hx)
  refine ⟨_, rfl, post_of_below (pa := p0 ++ (p1)) (pv := []) hW' (fun _ _ _ => trodAll_mk1 (shut_bool Tryd.underlying4 true)) (fun sp hsp => ?_) (fun _ _ => rfl) (by simp) hbel (ok_one (by kernel_rfl) rfl (okWide_bool_mk Tryd.underlying4 _))⟩
  have stay : ∀ {t : TypeId} {v : Value} {d : DataW H} {ps : List MemPlace}, Tryd.prog.readableRec t = true → t < Tryd.prog.types.size → DataW.Trod enc Tryd.prog W 0 (fun _ => true) true t v d ps → (∀ x ∈ ps, x ∈ p0 ++ (p1)) → DataW.Trod enc Tryd.prog W' 0 sp true t v d ps := fun hr hrow h hin =>
    WideElems.Trod_stays laid_out hr hrow h (fun x hx => hbel.same (hlt x (hin x hx))) (fun x hx => hsp x (by simpa using hin x hx))
  exact trodAll_mk2 (stay (by kernel_rfl) (of_decide_eq_true (by kernel_rfl)) h0 (fun x hx => List.mem_append_left _ hx)) (stay (by kernel_rfl) (of_decide_eq_true (by kernel_rfl)) h1 (fun x hx => List.mem_append_right _ (hx)))
theorem liftedUpto (os : Os) (started : os.Started) (H : Type) (enc : TypeId × Value → H) (F : Stop.Interp) :
    ReturnsInHanded {} Tryd.checked os 5 .any ((Rows.OpenSpec.upto Rows.sheetAsksSpec).preRow enc Tryd.prog Tryd.f5 Rows.sheetAsksUptoRow.domain false Rows.sheetAsksUptoRow.laid) (((Rows.OpenSpec.upto Rows.sheetAsksSpec).at F).post enc Tryd.prog Tryd.f5 false true false false) := by
  obtain ⟨places, hx⟩ := reads os enc
  refine returnsInHanded_of_row (C := Tryd.checked) (s := Rows.OpenSpec.upto Rows.sheetAsksSpec) own_knob started (by kernel_rfl) Tryd.func5
    (witness_row_at (enc := enc) (C := Tryd.checked) false (laidWorld os) wArgs rfl (by kernel_rfl) (by kernel_rfl) (by kernel_rfl)
      (OpenSpec.preRow_of_cond 8 hx (by kernel_rfl) (fun k hk => by cases hk; kernel_rfl) (by kernel_rfl) (laid_met os))) ?_
  intro W base args ds gs before hval hW _ hcond _ hL _ _
  exact contract H enc W base args ds gs before hval hW hL (hcond _ rfl)
theorem saidUpto : Rows.SheetAsksUptoSaid :=
  OpenClaim.holds_of_cond 5 Tryd.f5 rfl rfl rfl rfl rfl rfl rfl ⟨rfl, rfl, rfl, rfl, rfl⟩ rfl rfl rfl rfl rfl (by kernel_rfl) Tryd.func5 (by kernel_rfl)
    (of_decide_eq_true (by kernel_rfl)) (by unfold Func.isWrapper; first | (rw [if_pos (by decide +kernel)]; kernel_rfl) | (rw [if_neg (by decide +kernel)]; exact ⟨rfl, rfl⟩))
    (fun os started H enc _ F => by rw [OpenClaim.pre_eq_preRow]; exact liftedUpto os started H enc F)
theorem plain (f : FuncId) (fn : Func) (hf : Tryd.pinned.checked.prog.funcNamed "rebus/rebuslaw23.SheetAsks" = some f) (hfn : Tryd.pinned.checked.prog.funcs[f]? = some fn) :
    false = Tryd.pinned.checked.prog.looks [] ∧ ∀ (j : Nat) t, fn.params[j]? = some t → Tryd.pinned.checked.prog.wantsStandIn t = false := by
  obtain rfl : f = 5 := Option.some.inj ((show Tryd.prog.funcNamed "rebus/rebuslaw23.SheetAsks" = some 5 by kernel_rfl).symm.trans hf) |>.symm
  obtain rfl : fn = Tryd.f5 := (Option.some.inj (Tryd.func5.symm.trans hfn)).symm
  refine ⟨by kernel_rfl, fun j t ht => ?_⟩
  rw [Tryd.params5] at ht
  have hm : t ∈ #[27, 30] := Array.mem_of_getElem? ht
  simp only [List.mem_toArray, List.mem_cons, List.not_mem_nil, or_false] at hm
  rcases hm with rfl | rfl
  · exact (show Tryd.prog.wantsStandIn 27 = false by kernel_rfl)
  · exact (show Tryd.prog.wantsStandIn 30 = false by kernel_rfl)
theorem cardUpto : Rows.SheetAsksUptoCardSaid :=
  Claim7.holds_tied_plain_at .later [] _ _ _ _ saidUpto (fun _ h => by cases h) (by kernel_rfl) (fun _ h => by cases h) sheetAsksUpto_row_tie rfl ⟨rfl, rfl⟩ (by kernel_rfl) rfl plain (by kernel_rfl)
end Go.Proofs.YtiipailmldbpbaaDoor.asks
end
#print axioms Go.Proofs.YtiipailmldbpbaaDoor.asks.cardUpto
