/- PART 20 OF A PROOF: Lean functions, and that the program computes them; written by hand and by a program. Not trusted: Lean checks it. -/
import Derived.Test.YtiipailmldbpbaaDoorAd13
import Derived.Test.YtiipailmldbpbaaDoorAd16
import Derived.Test.YtiipailmldbpbaaDoorAd17
import Derived.Test.YtiipailmldbpbaaDoorAd18
import Derived.Test.YtiipailmldbpbaaDoorAd19
set_option linter.unusedVariables false
set_option linter.unusedSimpArgs false
section
namespace Go.Proofs.YtiipailmldbpbaaDoor.Q
open Go.RowKit Go.Proofs.YtiipailmldbpbaaDoorW.PrintWords Go.Proofs.YtiipailmldbpbaaDoorW.PrintLast Go.Proofs.YtiipailmldbpbaaDoorW.PrintMore
set_option linter.unusedVariables false
open Go.Proofs.YtiipailmldbpbaaDoorS
def twoT : List ByteArray := [⟨#[67]⟩, ⟨#[]⟩]
theorem awake_start : sstart ⟨#[]⟩ 1 2 twoRow twoRow twoRow twoCells twoClues = (List.replicate 2 ⟨#[]⟩, List.replicate 2 false, 0, false, 0) := by decide +kernel
theorem awake_do1 : doOf ⟨#[]⟩ 1 2 twoRow twoRow twoRow twoCells twoClues (List.replicate 2 ⟨#[]⟩) (List.replicate 2 false) 0 false 1 0 ⟨#[99]⟩ = (twoT, [true, false], 1, false, 0) := by decide +kernel
theorem awake_do2 : doOf ⟨#[]⟩ 1 2 twoRow twoRow twoRow twoCells twoClues twoT [true, false] 1 false 1 0 ⟨#[99, 104]⟩ = (twoCells, [true, true], 1, false, 0) := by decide +kernel
theorem awake_done1 : sdone ⟨#[]⟩ 1 2 twoRow twoRow twoRow twoCells twoClues twoCells [true, true] 1 = true := by decide +kernel
theorem awake_done2 : sdone ⟨#[]⟩ 1 2 twoRow twoRow twoRow twoCells twoClues twoT [true, false] 1 = false := by decide +kernel
theorem DoPost.opened {w w' : World} {r : List ByteArray × List Bool × Int × Bool × Int} {e : Ending} {l : List ByteArray} {b : List Bool} {i er : Int} {dn : Bool} (h : DoPost w r e w') (hr : r = (l, b, i, dn, er)) : ∃ v0 v1, e = .returned (.tuple #[.agg #[v0, v1, .int .i64 i, .bool dn], .int .i64 er]) ∧ Kd.R Kd.string 9 w' w.heap.size (fun _ => True) v0 l ∧ Kd.R Kd.bool 4 w' w.heap.size (fun _ => True) v1 b ∧ Below w.heap.size w w' := by
  subst hr
  exact h
theorem small_of {l : List ByteArray} (h : l.all (fun s => decide (s.size ≤ 1048576)) = true) : Small l := fun s hs => of_decide_eq_true (List.all_eq_true.1 h s hs)
theorem two_s : PuzS ⟨#[]⟩ twoCells twoClues := ⟨by decide, small_of (by decide +kernel), small_of (by decide +kernel), by decide, by decide⟩
set_option maxHeartbeats 8000000 in
set_option maxRecDepth 1000000 in
theorem rebuslaw23_awake.calls (w : World) (hT : Tabs w) :
    Calls Tryd.prog 7 #[] w fun e w' => e = .returned (.bool true) ∧ Below w.heap.size w w' := by
  have hu27 := Tryd.underlying27
  have hu30 := Tryd.underlying30
  have hu36 := Tryd.underlying36
  have e1 := awake_start
  have d1 := Lib.hid awake_do1
  have d2 := Lib.hid awake_do2
  have n1 := awake_done1
  have n2 := awake_done2
  obtain ⟨l0, hl0⟩ : ∃ l : List ByteArray, l = List.replicate 2 ⟨#[]⟩ := ⟨_, rfl⟩
  obtain ⟨b0, hb0⟩ : ∃ l : List Bool, l = List.replicate 2 false := ⟨_, rfl⟩
  obtain ⟨b1, hb1⟩ : ∃ l : List Bool, l = [true, false] := ⟨_, rfl⟩
  obtain ⟨b2, hb2⟩ : ∃ l : List Bool, l = [true, true] := ⟨_, rfl⟩
  have hs0 : Small l0 := by rw [hl0]; exact small_of (by decide +kernel)
  have hs1 : Small twoT := small_of (by decide +kernel)
  have hs2 : Small twoCells := two_s.s
  rw [← hl0, ← hb0] at e1
  replace e1 := Lib.hid e1
  rw [← hl0, ← hb0, ← hb1] at d1
  rw [← hb1, ← hb2] at d2
  rw [← hb2] at n1
  rw [← hb1] at n2
  replace n1 := Lib.hid n1
  replace n2 := Lib.hid n2
  clear hl0 hb0 hb1 hb2
  have tok1 : True := trivial
  have tok2 : True := trivial
  have tok3 : True := trivial
  have tok4 : True := trivial
  go_enter Tryd.func7, Tryd.ntmps7
  go_wp2_with (first
    | (go_at_call 19; go_must (refine (rebuslaw23_two.calls _).mono ?_; rintro e w1 ⟨v0, v1, v2, v3, v4, rfl, r0, r1, r2, r3, r4, hB1⟩; obtain ⟨A0, c0, rfl, k0, C0⟩ := Kd.R_reads r0; obtain ⟨A1, c1, rfl, k1, C1⟩ := Kd.R_reads r1; obtain ⟨A2, c2, rfl, k2, C2⟩ := Kd.R_reads r2; obtain ⟨A3, c3, rfl, k3, C3⟩ := Kd.R_reads r3; obtain ⟨A4, c4, rfl, k4, C4⟩ := Kd.R_reads r4; have hP1 := Lib.hid (PuzR.mk C0 k0 C1 k1 C2 k2 C3 k3 C4 k4); clear r0 r1 r2 r3 r4 C0 C1 C2 C3 C4 k0 k1 k2 k3 k4; replace hB1 := Lib.hid hB1))
    | (go_at_call 8; go_must (have hPa := hP1.out.below (box1 w1 (.cells #[.string (⟨#[]⟩ : ByteArray), .int .i64 1, .int .i64 2, .slice A0 twoRow.length c0, .slice A1 twoRow.length c1, .slice A2 twoRow.length c2, .slice A3 twoCells.length c3, .slice A4 twoClues.length c4] 27)).2; have hTa := tabs_below hT (below_alloc hB1.out (.cells #[.string (⟨#[]⟩ : ByteArray), .int .i64 1, .int .i64 2, .slice A0 twoRow.length c0, .slice A1 twoRow.length c1, .slice A2 twoRow.length c2, .slice A3 twoCells.length c3, .slice A4 twoClues.length c4] 27)); refine (start_calls hTa hPa two_s).mono ?_; clear hPa hTa; rintro e w2 hD; obtain ⟨v5, v6, rfl, r5, r6, hB2⟩ := hD.opened e1.out; clear hD; obtain ⟨A5, c5, rfl, k5, C5⟩ := Kd.R_reads r5; obtain ⟨A6, c6, rfl, k6, C6⟩ := Kd.R_reads r6; have hS2 := Lib.hid (ShtR.mk C5 k5 C6 k6); have bP2 := Lib.hid (blk_below (box1 w1 (.cells #[.string (⟨#[]⟩ : ByteArray), .int .i64 1, .int .i64 2, .slice A0 twoRow.length c0, .slice A1 twoRow.length c1, .slice A2 twoRow.length c2, .slice A3 twoCells.length c3, .slice A4 twoClues.length c4] 27)).1 hB2); have hP2 := Lib.hid (hP1.out.below (below_step (box1 w1 (.cells #[.string (⟨#[]⟩ : ByteArray), .int .i64 1, .int .i64 2, .slice A0 twoRow.length c0, .slice A1 twoRow.length c1, .slice A2 twoRow.length c2, .slice A3 twoCells.length c3, .slice A4 twoClues.length c4] 27)).2 hB2)); replace hB2 := Lib.hid (below_step (below_alloc hB1.out (.cells #[.string (⟨#[]⟩ : ByteArray), .int .i64 1, .int .i64 2, .slice A0 twoRow.length c0, .slice A1 twoRow.length c1, .slice A2 twoRow.length c2, .slice A3 twoCells.length c3, .slice A4 twoClues.length c4] 27)) hB2); have p2 := cells8 bP2.out; have z2 := blk_lt bP2.out; clear r5 r6 C5 C6 k5 k6))
    | (go_at_call 9; have tq := tok1; go_must (clear tq tok1; have hPa := hP2.out.below (box1 w2 (.cells #[.slice A5 l0.length c5, .slice A6 b0.length c6, .int .i64 0, .bool false] 30)).2; have hSa := hS2.out.below (box1 w2 (.cells #[.slice A5 l0.length c5, .slice A6 b0.length c6, .int .i64 0, .bool false] 30)).2; have hTa := tabs_below hT (below_alloc hB2.out (.cells #[.slice A5 l0.length c5, .slice A6 b0.length c6, .int .i64 0, .bool false] 30)); refine (sheet_Do.calls hTa hPa hSa two_s hs0 (by decide)).mono ?_; clear hPa hSa hTa; rintro e w3 hD; obtain ⟨v7, v8, rfl, rA, rB, hBn⟩ := hD.opened d1.out; clear hD; obtain ⟨A7, c7, rfl, kA, CA⟩ := Kd.R_reads rA; obtain ⟨A8, c8, rfl, kB, CB⟩ := Kd.R_reads rB; have hS3 := Lib.hid (ShtR.mk CA kA CB kB); have bS3 := Lib.hid (blk_below (box1 w2 (.cells #[.slice A5 l0.length c5, .slice A6 b0.length c6, .int .i64 0, .bool false] 30)).1 hBn); have hBx := below_step (box1 w2 (.cells #[.slice A5 l0.length c5, .slice A6 b0.length c6, .int .i64 0, .bool false] 30)).2 hBn; have hP3 := Lib.hid (hP2.out.below hBx); have bP3 := Lib.hid (blk_below bP2.out hBx); skip; have hB3 := Lib.hid (below_step hB2.out hBx); have p3 := cells8 bP3.out; have q3 := cells4 bS3.out; have z3 := blk_lt bS3.out; have y3 := blk_lt bP3.out; clear rA rB CA CB kA kB hBn hBx p2))
    | (go_at_call 9; have tq := tok2; go_must (clear tq tok2; have hPa := hP3.out.below (box1 w3 (.cells #[.slice A7 twoT.length c7, .slice A8 b1.length c8, .int .i64 1, .bool false] 30)).2; have hSa := hS3.out.below (box1 w3 (.cells #[.slice A7 twoT.length c7, .slice A8 b1.length c8, .int .i64 1, .bool false] 30)).2; have hTa := tabs_below hT (below_alloc hB3.out (.cells #[.slice A7 twoT.length c7, .slice A8 b1.length c8, .int .i64 1, .bool false] 30)); refine (sheet_Do.calls hTa hPa hSa two_s hs1 (by decide)).mono ?_; clear hPa hSa hTa; rintro e w4 hD; obtain ⟨v9, va, rfl, rA, rB, hBn⟩ := hD.opened d2.out; clear hD; obtain ⟨A9, c9, rfl, kA, CA⟩ := Kd.R_reads rA; obtain ⟨Aa, ca, rfl, kB, CB⟩ := Kd.R_reads rB; have hS4 := Lib.hid (ShtR.mk CA kA CB kB); have bS4 := Lib.hid (blk_below (box1 w3 (.cells #[.slice A7 twoT.length c7, .slice A8 b1.length c8, .int .i64 1, .bool false] 30)).1 hBn); have hBx := below_step (box1 w3 (.cells #[.slice A7 twoT.length c7, .slice A8 b1.length c8, .int .i64 1, .bool false] 30)).2 hBn; have hP4 := Lib.hid (hP3.out.below hBx); have hBy := Lib.hid hBx; have bP4 := Lib.hid (blk_below bP3.out hBx); skip; have hB4 := Lib.hid (below_step hB3.out hBx); have p4 := cells8 bP4.out; have q4 := cells4 bS4.out; have z4 := blk_lt bS4.out; have y4 := blk_lt bP4.out; clear rA rB CA CB kA kB hBn hBx p3))
    | (go_at_call 10; have tq := tok3; go_must (clear tq tok3; have hPa := hP4.out.below (box1 w4 (.cells #[.slice A9 twoCells.length c9, .slice Aa b2.length ca, .int .i64 1, .bool false] 30)).2; have hSa := hS4.out.below (box1 w4 (.cells #[.slice A9 twoCells.length c9, .slice Aa b2.length ca, .int .i64 1, .bool false] 30)).2; have hTa := tabs_below hT (below_alloc hB4.out (.cells #[.slice A9 twoCells.length c9, .slice Aa b2.length ca, .int .i64 1, .bool false] 30)); refine (done_calls hTa hPa hSa two_s hs2).mono ?_; clear hPa hSa hTa; rintro e w5 ⟨rfl, hb5⟩; rw [n1.out]; have hBx := below_step (box1 w4 (.cells #[.slice A9 twoCells.length c9, .slice Aa b2.length ca, .int .i64 1, .bool false] 30)).2 hb5; have bP5 := blk_below bP4.out hBx; have bS5 := blk_below bS4.out hBx; have hP5 := Lib.hid (hP4.out.below hBx); have hS5 := Lib.hid ((hS3.out.below hBy.out).below hBx); have hB5 := Lib.hid (below_step hB4.out hBx); have p5 := cells8 bP5; have q5 := cells4 bS5; clear hb5 hBx bP5 bS5 p4 q4))
    | (go_at_call 10; have tq := tok4; go_must (clear tq tok4; refine (done_calls (tabs_below hT hB5.out) hP5.out hS5.out two_s hs1).mono ?_; rintro e w6 ⟨rfl, hb6⟩; rw [n2.out]))
    )
  go_ret
  exact ⟨rfl, below_step hB5.out hb6⟩
end Go.Proofs.YtiipailmldbpbaaDoor.Q
end
section
namespace Go.Proofs.YtiipailmldbpbaaDoor.Q
open Go.RowKit Go.Proofs.YtiipailmldbpbaaDoorW.PrintWords Go.Proofs.YtiipailmldbpbaaDoorW.PrintLast Go.Proofs.YtiipailmldbpbaaDoorW.PrintMore
set_option linter.unusedVariables false
set_option linter.unusedSimpArgs false
open Go.Proofs.YtiipailmldbpbaaDoorS
def rbad1 (bl : List Bool) (sc : List ByteArray) (ss : List Bool) (i : Nat) : Bool := pbad1 bl sc i || ((rdOf ByteArray.empty sc (i : Int)).toList.isEmpty && rdOf false ss (i : Int))
def rbad (bl : List Bool) (sc : List ByteArray) (ss : List Bool) : Nat → Nat → Bool
  | 0, _ => false
  | d + 1, i => rbad1 bl sc ss i || rbad bl sc ss d (i + 1)
theorem rbad_eq (bl : List Bool) (sc : List ByteArray) (ss : List Bool) : ∀ d i, rbad bl sc ss d i = (pbad bl sc d i || sbad sc ss d i)
  | 0, _ => rfl
  | d + 1, i => by
    simp only [rbad, rbad1, pbad, sbad, rbad_eq bl sc ss d (i + 1)]
    cases pbad1 bl sc i <;> cases pbad bl sc d (i + 1) <;> simp
theorem rbad_step {bl : List Bool} {sc : List ByteArray} {ss : List Bool} {n i : Nat} (hi : i < n) : rbad bl sc ss (n - i) i = (rbad1 bl sc ss i || rbad bl sc ss (n - (i + 1)) (i + 1)) := by
  obtain ⟨d, hd⟩ : ∃ d, n - i = d + 1 := ⟨n - i - 1, by omega⟩
  rw [hd, show n - (i + 1) = d by omega]
  rfl
theorem uline_nil : uline ⟨#[]⟩ = true := by decide +kernel
theorem scheck_ref {title : ByteArray} {H W : Int} {bl ri be : List Bool} {cells clues sc : List ByteArray} {ss : List Bool} {at_ : Int} (hp : pcheck title H W bl ri be cells clues = 0) (h1 : sc.length = cells.length) (h2 : ss.length = cells.length) : scheck title H W bl ri be cells clues sc ss at_ = if rbad bl sc ss sc.length 0 then 33 else if gopen bl at_ then 0 else 230 := by
  obtain ⟨k1, k2, k3, k4, k5⟩ := pcheck_ok hp
  have e : pcheck ⟨#[]⟩ H W bl ri be sc clues = if pbad bl sc sc.length 0 then 33 else 0 := by
    unfold pcheck
    rw [if_pos k1, if_pos (h1.trans k2), if_pos k4]
    have : (clues ++ [(⟨#[]⟩ : ByteArray)]).all uline = true := by
      rw [List.all_append] at k5 ⊢
      simp only [Bool.and_eq_true] at k5 ⊢
      refine ⟨k5.1, ?_⟩
      simp only [List.all_cons, List.all_nil, Bool.and_true]
      exact uline_nil
    rw [this]
    simp
  unfold scheck
  rw [if_pos hp, if_pos ⟨h1, h2⟩, e, rbad_eq]
  cases pbad bl sc sc.length 0 <;> simp
set_option maxHeartbeats 8000000 in
set_option maxRecDepth 1000000 in
theorem rebusref23_Check.calls {title : ByteArray} {H W : Int} {A2 : Option Addr} {c2 : Nat} {bl : List Bool} {A3 : Option Addr} {c3 : Nat} {ri : List Bool} {A4 : Option Addr} {c4 : Nat} {be : List Bool} {A5 : Option Addr} {c5 : Nat} {cells : List ByteArray} {A6 : Option Addr} {c6 : Nat} {clues : List ByteArray} {A7 : Option Addr} {c7 : Nat} {sc : List ByteArray} {A8 : Option Addr} {c8 : Nat} {ss : List Bool} {at_ : Int} {dn : Bool} {w : World} (hP : PuzR A2 c2 bl A3 c3 ri A4 c4 be A5 c5 cells A6 c6 clues w) (hS : ShtR A7 c7 sc A8 c8 ss w) (hz : PuzS title cells clues) (hzs : Small sc) :
    Calls Tryd.prog 14 #[.agg #[.string title, .int .i64 H, .int .i64 W, .slice A2 bl.length c2, .slice A3 ri.length c3, .slice A4 be.length c4, .slice A5 cells.length c5, .slice A6 clues.length c6], .agg #[.slice A7 sc.length c7, .slice A8 ss.length c8, .int .i64 at_, .bool dn]] w fun e w' => e = .returned (.int .i64 (scheck title H W bl ri be cells clues sc ss at_)) ∧ Below w.heap.size w w' := by
  have hx := box2 w (.cells #[.string title, .int .i64 H, .int .i64 W, .slice A2 bl.length c2, .slice A3 ri.length c3, .slice A4 be.length c4, .slice A5 cells.length c5, .slice A6 clues.length c6] 27) (.cells #[.slice A7 sc.length c7, .slice A8 ss.length c8, .int .i64 at_, .bool dn] 30)
  replace hx := Lib.hid hx
  have hu27 := Tryd.underlying27
  have hu24 := Tryd.underlying24
  have hu30 := Tryd.underlying30
  by_cases hp : pcheck title H W bl ri be cells clues = 0
  · have tp : ((0 : Int) != 0) = false := rfl
    have hg := (pcheck_ok hp).1
    have hbl := (pcheck_ok hp).2.1
    by_cases h1 : sc.length = cells.length
    · have t1 : ((sc.length : Int) != (cells.length : Int)) = false := by rw [h1]; simp
      have t1b : (sc.length != cells.length) = false := by rw [h1]; simp
      by_cases h2 : ss.length = cells.length
      · have t2 : ((ss.length : Int) != (cells.length : Int)) = false := by rw [h2]; simp
        have t2b : (ss.length != cells.length) = false := by rw [h2]; simp
        rw [scheck_ref hp h1 h2]
        obtain ⟨V, hV⟩ : ∃ V, (if rbad bl sc ss sc.length 0 then (33 : Int) else if gopen bl at_ then 0 else 230) = V := ⟨_, rfl⟩
        rw [hV]
        replace hV := Lib.hid hV
        replace hg := Lib.hid hg
        replace h1 := Lib.hid h1
        replace h2 := Lib.hid h2
        replace hbl := Lib.hid hbl
        replace hp := Lib.hid hp
        go_enter Tryd.func14, Tryd.ntmps14
        go_wp2_with (first
          | (go_at_call 28; go_must (refine (rebusref21_Check.calls (hP.below hx.out.2.2) hz).mono ?_; rintro e w3 ⟨rfl, hb3⟩; rw [hp.out]; have hB3 := Lib.hid (below_step hx.out.2.2 hb3); have bP := Lib.hid (blk_below hx.out.1 hb3); have bS := Lib.hid (blk_below hx.out.2.1 hb3); have p3 := cells8 bP.out; have s3 := cells4 bS.out; clear hb3)))
        go_loopw [6] (fun v6 wr => ∃ (i : Nat) (q : Int), v6 = .int .i64 q ∧ Hid (q = i ∧ i ≤ sc.length) ∧ Hid (rbad bl sc ss sc.length 0 = rbad bl sc ss (sc.length - i) i) ∧ Hid (wr.heap[w.heap.size]? = some (.cells #[.string title, .int .i64 H, .int .i64 W, .slice A2 bl.length c2, .slice A3 ri.length c3, .slice A4 be.length c4, .slice A5 cells.length c5, .slice A6 clues.length c6] 27 (0, 0))) ∧ Hid (wr.heap[w.heap.size + 1]? = some (.cells #[.slice A7 sc.length c7, .slice A8 ss.length c8, .int .i64 at_, .bool dn] 30 (0, 0))) ∧ Hid (Below w.heap.size w wr)) (fun v6 _ => sc.length - (intOf v6).toNat)
        case atStart => exact ⟨0, 0, rfl, Lib.hid ⟨rfl, Nat.zero_le _⟩, Lib.hid rfl, bP, bS, hB3⟩
        case round =>
          clear hB3 bP bS p3 s3 t1 t1b t2 t2b tp
          obtain ⟨i, q, rfl, hq, hrb, bP, bS, hB⟩ := hrel
          have p4 := cells8 bP.out
          have s4 := cells4 bS.out
          have y4 := blk_lt bP.out
          have z4 := blk_lt bS.out
          by_cases hlt : i < sc.length
          · have hq0 : 0 ≤ q := by have := hq.out; omega
            have hq1 : q < (sc.length : Int) := by have := hq.out; omega
            have hq2 : q < (bl.length : Int) := by have := h1.out; have := hbl.out; omega
            have hq4 : q < (ss.length : Int) := by have := h1.out; have := h2.out; omega
            have hq3 : q < 1048576 := by have := hz.l; have := h1.out; omega
            obtain ⟨ad, eA, zx⟩ := Kd.at_string (hS.below hB.out).r7 q hq0 hq1
            obtain ⟨ad2, eA2, zb⟩ := Kd.at_bool (hP.below hB.out).r2 q hq0 hq2
            obtain ⟨ad3, eA3, zs⟩ := Kd.at_bool (hS.below hB.out).r8 q hq0 hq4
            cases eA
            cases eA2
            cases eA3
            obtain ⟨xa, hxa⟩ : ∃ x, rdOf ByteArray.empty sc q = x := ⟨_, rfl⟩
            obtain ⟨bb, hbb⟩ : ∃ x, rdOf false bl q = x := ⟨_, rfl⟩
            obtain ⟨sb, hsb⟩ : ∃ x, rdOf false ss q = x := ⟨_, rfl⟩
            have hxs : xa.size ≤ 1048576 := by rw [← hxa, hq.out.1]; exact hzs.rd hlt
            have hst := rbad_step (bl := bl) (sc := sc) (ss := ss) hlt
            have e1 : rbad1 bl sc ss i = ((!xa.toList.isEmpty && (bb || !uletter xa)) || (xa.toList.isEmpty && sb)) := by unfold rbad1 pbad1; rw [← hq.out.1, hxa, hbb, hsb]
            rw [e1] at hst
            rw [hxa] at zx
            rw [hbb] at zb
            rw [hsb] at zs
            clear hxa hbb hsb e1
            by_cases hne : xa.toList = []
            · have te : xa.toList.isEmpty = true := by rw [hne]; rfl
              rw [te] at hst
              cases sb with
              | false =>
                have hE : rbad bl sc ss sc.length 0 = rbad bl sc ss (sc.length - (i + 1)) (i + 1) := by rw [hrb.out, hst]; rfl
                replace hE := Lib.hid hE
                replace hlt := Lib.hid hlt
                clear hst hrb
                go_wp2
                refine ⟨⟨i + 1, q + 1, rfl, Lib.hid ⟨by have := hq.out; omega, hlt.out⟩, hE, bP, bS, hB⟩, ?_⟩
                simp only [intOf]; have := hq.out; have := hlt.out; omega
              | true =>
                have hE : rbad bl sc ss sc.length 0 = true := by rw [hrb.out, hst]; rfl
                replace hE := Lib.hid hE
                clear hst hrb
                go_wp2
                go_ret
                exact ⟨by rw [← hV.out, hE.out]; rfl, hB.out⟩
            · have te : xa.toList.isEmpty = false := toList_nil.2 hne
              rw [te] at hst
              cases bb with
              | true =>
                have hE : rbad bl sc ss sc.length 0 = true := by rw [hrb.out, hst]; rfl
                replace hE := Lib.hid hE
                clear hst hrb
                go_wp2
                go_ret
                exact ⟨by rw [← hV.out, hE.out]; rfl, hB.out⟩
              | false =>
                cases hle : uletter xa with
                | false =>
                  have hE : rbad bl sc ss sc.length 0 = true := by rw [hrb.out, hst, hle]; rfl
                  replace hE := Lib.hid hE
                  replace hle := Lib.hid hle
                  clear hst hrb
                  go_wp2_with (first
                    | (go_at_call 30; go_must (refine (rebusref21_Letter.calls xa hxs _).mono ?_; rintro e w5 ⟨rfl, hb5⟩; rw [hle.out])))
                  go_ret
                  exact ⟨by rw [← hV.out, hE.out]; rfl, below_step hB.out hb5⟩
                | true =>
                  have hE : rbad bl sc ss sc.length 0 = rbad bl sc ss (sc.length - (i + 1)) (i + 1) := by rw [hrb.out, hst, hle]; rfl
                  replace hE := Lib.hid hE
                  replace hle := Lib.hid hle
                  replace hlt := Lib.hid hlt
                  clear hst hrb
                  go_wp2_with (first
                    | (go_at_call 30; go_must (refine (rebusref21_Letter.calls xa hxs _).mono ?_; rintro e w5 ⟨rfl, hb5⟩; rw [hle.out]; have zx := pw_cell_below hb5 zx; have s5 := cells4 (blk_below bS.out hb5); clear s4 p4)))
                  refine ⟨⟨i + 1, q + 1, rfl, Lib.hid ⟨by have := hq.out; omega, hlt.out⟩, hE, Lib.hid (blk_below bP.out hb5), Lib.hid (blk_below bS.out hb5), Lib.hid (below_step hB.out hb5)⟩, ?_⟩
                  simp only [intOf]; have := hq.out; have := hlt.out; omega
          · have hge : ¬ q < (sc.length : Int) := by have := hq.out; omega
            have hE : rbad bl sc ss sc.length 0 = false := by rw [hrb.out, show sc.length - i = 0 by have := hq.out; omega]; rfl
            replace hE := Lib.hid hE
            clear hrb
            obtain ⟨q0, q1, q2, q3, q4, q5, q6, q7⟩ := p4
            cases ho : gopen bl at_ with
            | false =>
              have hv : (decide (gcheck H W bl ri be = 0) && gopen bl at_) = false := by rw [ho]; simp
              replace hv := Lib.hid hv
              replace ho := Lib.hid ho
              go_wp2_with (first
                | (go_at_call 31; go_must (refine (rebusref05_Open.calls (hP.below hB.out).gridC).mono ?_; rintro e w6 ⟨rfl, hb6⟩; rw [hv.out])))
              go_ret
              exact ⟨by rw [← hV.out, hE.out, ho.out]; rfl, below_step hB.out hb6⟩
            | true =>
              have hv : (decide (gcheck H W bl ri be = 0) && gopen bl at_) = true := by rw [ho, hg.out]; rfl
              replace hv := Lib.hid hv
              replace ho := Lib.hid ho
              go_wp2_with (first
                | (go_at_call 31; go_must (refine (rebusref05_Open.calls (hP.below hB.out).gridC).mono ?_; rintro e w6 ⟨rfl, hb6⟩; rw [hv.out])))
              go_ret
              exact ⟨by rw [← hV.out, hE.out, ho.out]; rfl, below_step hB.out hb6⟩
      · have t2 : ((ss.length : Int) != (cells.length : Int)) = true := bne_iff_ne.2 (by omega)
        have t2b : (ss.length != cells.length) = true := by simpa using h2
        have hv : scheck title H W bl ri be cells clues sc ss at_ = 51 := by unfold scheck; rw [if_pos hp, if_neg (fun h => h2 h.2)]
        rw [hv]
        clear hv hbl hg h1 h2
        replace hp := Lib.hid hp
        go_enter Tryd.func14, Tryd.ntmps14
        go_wp2_with (first
          | (go_at_call 28; go_must (refine (rebusref21_Check.calls (hP.below hx.out.2.2) hz).mono ?_; rintro e w3 ⟨rfl, hb3⟩; rw [hp.out]; have hB3 := Lib.hid (below_step hx.out.2.2 hb3); have bP := Lib.hid (blk_below hx.out.1 hb3); have bS := Lib.hid (blk_below hx.out.2.1 hb3); have p3 := cells8 bP.out; have s3 := cells4 bS.out; clear hb3)))
        go_ret
        exact ⟨rfl, hB3.out⟩
    · have t1 : ((sc.length : Int) != (cells.length : Int)) = true := bne_iff_ne.2 (by omega)
      have t1b : (sc.length != cells.length) = true := by simpa using h1
      have hv : scheck title H W bl ri be cells clues sc ss at_ = 51 := by unfold scheck; rw [if_pos hp, if_neg (fun h => h1 h.1)]
      rw [hv]
      clear hv hbl hg h1
      replace hp := Lib.hid hp
      go_enter Tryd.func14, Tryd.ntmps14
      go_wp2_with (first
        | (go_at_call 28; go_must (refine (rebusref21_Check.calls (hP.below hx.out.2.2) hz).mono ?_; rintro e w3 ⟨rfl, hb3⟩; rw [hp.out]; have hB3 := Lib.hid (below_step hx.out.2.2 hb3); have bP := Lib.hid (blk_below hx.out.1 hb3); have bS := Lib.hid (blk_below hx.out.2.1 hb3); have p3 := cells8 bP.out; have s3 := cells4 bS.out; clear hb3)))
      go_ret
      exact ⟨rfl, hB3.out⟩
  · have tp : (pcheck title H W bl ri be cells clues != 0) = true := bne_iff_ne.2 hp
    have hv : scheck title H W bl ri be cells clues sc ss at_ = pcheck title H W bl ri be cells clues := by unfold scheck; rw [if_neg hp]
    rw [hv]
    clear hv hp
    obtain ⟨pe, hpe⟩ : ∃ x, pcheck title H W bl ri be cells clues = x := ⟨_, rfl⟩
    rw [hpe] at tp ⊢
    replace hpe := Lib.hid hpe
    go_enter Tryd.func14, Tryd.ntmps14
    go_wp2_with (first
      | (go_at_call 28; go_must (refine (rebusref21_Check.calls (hP.below hx.out.2.2) hz).mono ?_; rintro e w3 ⟨rfl, hb3⟩; rw [hpe.out]; have hB3 := Lib.hid (below_step hx.out.2.2 hb3); have bP := Lib.hid (blk_below hx.out.1 hb3); have bS := Lib.hid (blk_below hx.out.2.1 hb3); have p3 := cells8 bP.out; have s3 := cells4 bS.out; clear hb3)))
    go_ret
    exact ⟨rfl, hB3.out⟩
set_option maxHeartbeats 8000000 in
set_option maxRecDepth 1000000 in
theorem rebusref23_Done.calls {title : ByteArray} {H W : Int} {A2 : Option Addr} {c2 : Nat} {bl : List Bool} {A3 : Option Addr} {c3 : Nat} {ri : List Bool} {A4 : Option Addr} {c4 : Nat} {be : List Bool} {A5 : Option Addr} {c5 : Nat} {cells : List ByteArray} {A6 : Option Addr} {c6 : Nat} {clues : List ByteArray} {A7 : Option Addr} {c7 : Nat} {sc : List ByteArray} {A8 : Option Addr} {c8 : Nat} {ss : List Bool} {at_ : Int} {dn : Bool} {w : World} (hP : PuzR A2 c2 bl A3 c3 ri A4 c4 be A5 c5 cells A6 c6 clues w) (hS : ShtR A7 c7 sc A8 c8 ss w) (hz : PuzS title cells clues) (hzs : Small sc) :
    Calls Tryd.prog 15 #[.agg #[.string title, .int .i64 H, .int .i64 W, .slice A2 bl.length c2, .slice A3 ri.length c3, .slice A4 be.length c4, .slice A5 cells.length c5, .slice A6 clues.length c6], .agg #[.slice A7 sc.length c7, .slice A8 ss.length c8, .int .i64 at_, .bool dn]] w fun e w' => e = .returned (.bool (sdone title H W bl ri be cells clues sc ss at_)) ∧ Below w.heap.size w w' := by
  have hx := box2 w (.cells #[.string title, .int .i64 H, .int .i64 W, .slice A2 bl.length c2, .slice A3 ri.length c3, .slice A4 be.length c4, .slice A5 cells.length c5, .slice A6 clues.length c6] 27) (.cells #[.slice A7 sc.length c7, .slice A8 ss.length c8, .int .i64 at_, .bool dn] 30)
  replace hx := Lib.hid hx
  have hu27 := Tryd.underlying27
  have hu30 := Tryd.underlying30
  by_cases hp : scheck title H W bl ri be cells clues sc ss at_ = 0
  · have tp : ((0 : Int) != 0) = false := rfl
    have hsl : sc.length = cells.length := (scheck_ok hp).2.1
    have hv : sdone title H W bl ri be cells clues sc ss at_ = !slacks cells sc cells.length 0 := by unfold sdone; rw [decide_eq_true hp, Bool.true_and]
    rw [hv]
    clear hv
    obtain ⟨V, hV⟩ : ∃ V, (!slacks cells sc cells.length 0) = V := ⟨_, rfl⟩
    rw [hV]
    replace hV := Lib.hid hV
    replace hsl := Lib.hid hsl
    replace hp := Lib.hid hp
    go_enter Tryd.func15, Tryd.ntmps15
    go_wp2_with (first
      | (go_at_call 14; go_must (refine (rebusref23_Check.calls (hP.below hx.out.2.2) (hS.below hx.out.2.2) hz hzs).mono ?_; rintro e w3 ⟨rfl, hb3⟩; rw [hp.out]; have hB3 := Lib.hid (below_step hx.out.2.2 hb3); have bP := Lib.hid (blk_below hx.out.1 hb3); have bS := Lib.hid (blk_below hx.out.2.1 hb3); have p3 := cells8 bP.out; have s3 := cells4 bS.out; clear hb3)))
    go_loopw [5] (fun v5 wr => ∃ (i : Nat) (q : Int), v5 = .int .i64 q ∧ Hid (q = i ∧ i ≤ cells.length) ∧ Hid (slacks cells sc cells.length 0 = slacks cells sc (cells.length - i) i) ∧ Hid (wr.heap[w.heap.size]? = some (.cells #[.string title, .int .i64 H, .int .i64 W, .slice A2 bl.length c2, .slice A3 ri.length c3, .slice A4 be.length c4, .slice A5 cells.length c5, .slice A6 clues.length c6] 27 (0, 0))) ∧ Hid (wr.heap[w.heap.size + 1]? = some (.cells #[.slice A7 sc.length c7, .slice A8 ss.length c8, .int .i64 at_, .bool dn] 30 (0, 0))) ∧ Hid (Below w.heap.size w wr)) (fun v5 _ => cells.length - (intOf v5).toNat)
    case atStart => exact ⟨0, 0, rfl, Lib.hid ⟨rfl, Nat.zero_le _⟩, Lib.hid rfl, bP, bS, hB3⟩
    case round =>
      clear hB3 bP bS p3 s3 tp
      obtain ⟨i, q, rfl, hq, hrb, bP, bS, hB⟩ := hrel
      have p4 := cells8 bP.out
      have s4 := cells4 bS.out
      by_cases hlt : i < cells.length
      · have hq0 : 0 ≤ q := by have := hq.out; omega
        have hq1 : q < (cells.length : Int) := by have := hq.out; omega
        have hq2 : q < (sc.length : Int) := by have := hsl.out; omega
        have hq3 : q < 1048576 := by have := hz.l; omega
        obtain ⟨ad, eA, zx⟩ := Kd.at_string (hP.below hB.out).r5 q hq0 hq1
        obtain ⟨ad2, eA2, zb⟩ := Kd.at_string (hS.below hB.out).r7 q hq0 hq2
        cases eA
        cases eA2
        have hst := slacks_step (cells := cells) (sc := sc) hlt
        rw [← hq.out.1] at hst
        obtain ⟨xa, hxa⟩ : ∃ x, rdOf ByteArray.empty cells q = x := ⟨_, rfl⟩
        obtain ⟨xb, hxb⟩ : ∃ x, rdOf ByteArray.empty sc q = x := ⟨_, rfl⟩
        rw [hxa, hxb] at hst
        rw [hxa] at zx
        rw [hxb] at zb
        clear hxa hxb
        by_cases hne : xa.toList = []
        · have te : xa.toList.isEmpty = true := by rw [hne]; rfl
          rw [te] at hst
          have hE : slacks cells sc cells.length 0 = slacks cells sc (cells.length - (i + 1)) (i + 1) := by rw [hrb.out, hst]; rfl
          replace hE := Lib.hid hE
          replace hlt := Lib.hid hlt
          clear hst hrb
          go_wp2
          go_quiet (fail)
          go_wp2
          refine ⟨⟨i + 1, q + 1, rfl, Lib.hid ⟨by have := hq.out; omega, hlt.out⟩, hE, Lib.hid (blk_drewN bP.out _), Lib.hid (blk_drewN bS.out _), Lib.hid (pw_below_drewN hB.out _)⟩, ?_⟩
          simp only [intOf]; have := hq.out; have := hlt.out; omega
        · have te : xa.toList.isEmpty = false := toList_nil.2 hne
          rw [te] at hst
          by_cases hE2 : xb.toList = xa.toList
          · have tE : (xb.toList == xa.toList) = true := by simpa using hE2
            rw [decide_eq_true hE2] at hst
            have hE : slacks cells sc cells.length 0 = slacks cells sc (cells.length - (i + 1)) (i + 1) := by rw [hrb.out, hst]; rfl
            replace hE := Lib.hid hE
            replace hlt := Lib.hid hlt
            clear hst hrb
            go_wp2
            go_quiet (fail)
            go_wp2
            refine ⟨⟨i + 1, q + 1, rfl, Lib.hid ⟨by have := hq.out; omega, hlt.out⟩, hE, Lib.hid (blk_drewN bP.out _), Lib.hid (blk_drewN bS.out _), Lib.hid (pw_below_drewN hB.out _)⟩, ?_⟩
            simp only [intOf]; have := hq.out; have := hlt.out; omega
          · have tE : (xb.toList == xa.toList) = false := by simpa using hE2
            rw [decide_eq_false hE2] at hst
            have hE : slacks cells sc cells.length 0 = true := by rw [hrb.out, hst]; rfl
            replace hE := Lib.hid hE
            clear hst hrb
            go_wp2
            go_quiet (fail)
            go_wp2
            go_ret
            exact ⟨by rw [← hV.out, hE.out]; rfl, pw_below_drewN hB.out _⟩
      · have hge : ¬ q < (cells.length : Int) := by have := hq.out; omega
        have hE : slacks cells sc cells.length 0 = false := by rw [hrb.out, show cells.length - i = 0 by have := hq.out; omega]; rfl
        replace hE := Lib.hid hE
        clear hrb
        go_wp2
        go_ret
        exact ⟨by rw [← hV.out, hE.out]; rfl, hB.out⟩
  · have tp : (scheck title H W bl ri be cells clues sc ss at_ != 0) = true := bne_iff_ne.2 hp
    have hv : sdone title H W bl ri be cells clues sc ss at_ = false := by unfold sdone; rw [decide_eq_false hp, Bool.false_and]
    rw [hv]
    clear hv hp
    obtain ⟨pe, hpe⟩ : ∃ x, scheck title H W bl ri be cells clues sc ss at_ = x := ⟨_, rfl⟩
    rw [hpe] at tp
    replace hpe := Lib.hid hpe
    go_enter Tryd.func15, Tryd.ntmps15
    go_wp2_with (first
      | (go_at_call 14; go_must (refine (rebusref23_Check.calls (hP.below hx.out.2.2) (hS.below hx.out.2.2) hz hzs).mono ?_; rintro e w3 ⟨rfl, hb3⟩; rw [hpe.out]; have hB3 := Lib.hid (below_step hx.out.2.2 hb3); have bP := Lib.hid (blk_below hx.out.1 hb3); have bS := Lib.hid (blk_below hx.out.2.1 hb3); have p3 := cells8 bP.out; have s3 := cells4 bS.out; clear hb3)))
    go_ret
    exact ⟨rfl, hB3.out⟩
end Go.Proofs.YtiipailmldbpbaaDoor.Q
end
section
namespace Go.Proofs.YtiipailmldbpbaaDoor.Q
open Go.RowKit Go.Proofs.YtiipailmldbpbaaDoorW.PrintWords Go.Proofs.YtiipailmldbpbaaDoorW.PrintLast Go.Proofs.YtiipailmldbpbaaDoorW.PrintMore
set_option linter.unusedVariables false
set_option linter.unusedSimpArgs false
open Go.Proofs.YtiipailmldbpbaaDoorS
set_option maxHeartbeats 8000000 in
set_option maxRecDepth 1000000 in
theorem rebusref23_Wrong.calls {title : ByteArray} {H W : Int} {A2 : Option Addr} {c2 : Nat} {bl : List Bool} {A3 : Option Addr} {c3 : Nat} {ri : List Bool} {A4 : Option Addr} {c4 : Nat} {be : List Bool} {A5 : Option Addr} {c5 : Nat} {cells : List ByteArray} {A6 : Option Addr} {c6 : Nat} {clues : List ByteArray} {A7 : Option Addr} {c7 : Nat} {sc : List ByteArray} {A8 : Option Addr} {c8 : Nat} {ss : List Bool} {at_ : Int} {dn : Bool} {w : World} (hP : PuzR A2 c2 bl A3 c3 ri A4 c4 be A5 c5 cells A6 c6 clues w) (hS : ShtR A7 c7 sc A8 c8 ss w) (hz : PuzS title cells clues) (hzs : Small sc) :
    Calls Tryd.prog 17 #[.agg #[.string title, .int .i64 H, .int .i64 W, .slice A2 bl.length c2, .slice A3 ri.length c3, .slice A4 be.length c4, .slice A5 cells.length c5, .slice A6 clues.length c6], .agg #[.slice A7 sc.length c7, .slice A8 ss.length c8, .int .i64 at_, .bool dn]] w fun e w' => ∃ v : Value, e = .returned (.tuple #[v, .int .i64 (swrong title H W bl ri be cells clues sc ss at_).2]) ∧ Kd.R (Kd.int .i64) 3 w' w.heap.size (fun _ => True) v (swrong title H W bl ri be cells clues sc ss at_).1 ∧ Below w.heap.size w w' := by
  have hx := box2 w (.cells #[.string title, .int .i64 H, .int .i64 W, .slice A2 bl.length c2, .slice A3 ri.length c3, .slice A4 be.length c4, .slice A5 cells.length c5, .slice A6 clues.length c6] 27) (.cells #[.slice A7 sc.length c7, .slice A8 ss.length c8, .int .i64 at_, .bool dn] 30)
  replace hx := Lib.hid hx
  have hu27 := Tryd.underlying27
  have hu30 := Tryd.underlying30
  by_cases hp : scheck title H W bl ri be cells clues sc ss at_ = 0
  · have tp : ((0 : Int) != 0) = false := rfl
    have hsl : sc.length = cells.length := (scheck_ok hp).2.1
    have hv : swrong title H W bl ri be cells clues sc ss at_ = (wrongs cells sc sc.length 0, 0) := by unfold swrong; rw [if_pos hp]
    rw [hv]
    clear hv
    obtain ⟨V, hV⟩ : ∃ V, wrongs cells sc sc.length 0 = V := ⟨_, rfl⟩
    rw [hV]
    dsimp only
    replace hsl := Lib.hid hsl
    replace hp := Lib.hid hp
    go_enter Tryd.func17, Tryd.ntmps17
    go_wp2_with (first
      | (go_at_call 14; go_must (refine (rebusref23_Check.calls (hP.below hx.out.2.2) (hS.below hx.out.2.2) hz hzs).mono ?_; rintro e w3 ⟨rfl, hb3⟩; rw [hp.out]; have hB3 := Lib.hid (below_step hx.out.2.2 hb3); have bP := Lib.hid (blk_below hx.out.1 hb3); have bS := Lib.hid (blk_below hx.out.2.1 hb3); have p3 := cells8 bP.out; have s3 := cells4 bS.out; clear hb3)))
    go_loopw [7, 8] (fun v7 v8 wr => ∃ (i : Nat) (q : Int) (xs : List Int), v8 = .int .i64 q ∧ Hid (q = i ∧ i ≤ sc.length) ∧ Hid (V = xs ++ wrongs cells sc (sc.length - i) i) ∧ Hid (xs.length ≤ i) ∧ Hid (Kd.R (Kd.int .i64) 3 wr w.heap.size (fun _ => True) v7 xs) ∧ Hid (wr.heap[w.heap.size]? = some (.cells #[.string title, .int .i64 H, .int .i64 W, .slice A2 bl.length c2, .slice A3 ri.length c3, .slice A4 be.length c4, .slice A5 cells.length c5, .slice A6 clues.length c6] 27 (0, 0))) ∧ Hid (wr.heap[w.heap.size + 1]? = some (.cells #[.slice A7 sc.length c7, .slice A8 ss.length c8, .int .i64 at_, .bool dn] 30 (0, 0))) ∧ Hid (Below w.heap.size w wr)) (fun v7 v8 _ => sc.length - (intOf v8).toNat)
    case atStart => exact ⟨0, 0, [], rfl, Lib.hid ⟨rfl, Nat.zero_le _⟩, Lib.hid hV.symm, Lib.hid (Nat.zero_le _), Lib.hid (Kd.R_nil _ _ _ _ _), bP, bS, hB3⟩
    case round =>
      clear hB3 bP bS p3 s3 tp hV
      obtain ⟨i, q, xs, rfl, hq, hrb, hxl, hO, bP, bS, hB⟩ := hrel
      have p4 := cells8 bP.out
      have s4 := cells4 bS.out
      by_cases hlt : i < sc.length
      · have hq0 : 0 ≤ q := by have := hq.out; omega
        have hq1 : q < (sc.length : Int) := by have := hq.out; omega
        have hq2 : q < (cells.length : Int) := by have := hsl.out; omega
        have hq3 : q < 1048576 := by have := hz.l; omega
        obtain ⟨ad, eA, zx⟩ := Kd.at_string (hP.below hB.out).r5 q hq0 hq2
        obtain ⟨ad2, eA2, zb⟩ := Kd.at_string (hS.below hB.out).r7 q hq0 hq1
        cases eA
        cases eA2
        have hst := wrongs_step (cells := cells) (sc := sc) hlt
        rw [← hq.out.1] at hst
        obtain ⟨xa, hxa⟩ : ∃ x, rdOf ByteArray.empty cells q = x := ⟨_, rfl⟩
        obtain ⟨xb, hxb⟩ : ∃ x, rdOf ByteArray.empty sc q = x := ⟨_, rfl⟩
        rw [hxa, hxb] at hst
        rw [hxa] at zx
        rw [hxb] at zb
        clear hxa hxb
        by_cases hne : xb.toList = []
        · have te : xb.toList.isEmpty = true := by rw [hne]; rfl
          rw [if_pos hne] at hst
          have hE : V = xs ++ wrongs cells sc (sc.length - (i + 1)) (i + 1) := by rw [hrb.out, hst]
          replace hE := Lib.hid hE
          replace hlt := Lib.hid hlt
          clear hst hrb
          go_wp2
          go_quiet (fail)
          go_wp2
          refine ⟨⟨i + 1, q + 1, xs, rfl, Lib.hid ⟨by have := hq.out; omega, hlt.out⟩, hE, Lib.hid (by have := hxl.out; omega), Lib.hid (Kd.R_drewN hO.out _), Lib.hid (blk_drewN bP.out _), Lib.hid (blk_drewN bS.out _), Lib.hid (pw_below_drewN hB.out _)⟩, ?_⟩
          simp only [intOf]; have := hq.out; have := hlt.out; omega
        · have te : xb.toList.isEmpty = false := toList_nil.2 hne
          rw [if_neg hne] at hst
          by_cases hn2 : xa.toList = []
          · have te2 : xa.toList.isEmpty = true := by rw [hn2]; rfl
            rw [if_pos hn2] at hst
            have hE : V = xs ++ wrongs cells sc (sc.length - (i + 1)) (i + 1) := by rw [hrb.out, hst]
            replace hE := Lib.hid hE
            replace hlt := Lib.hid hlt
            clear hst hrb
            go_wp2
            go_quiet (fail)
            go_wp2
            refine ⟨⟨i + 1, q + 1, xs, rfl, Lib.hid ⟨by have := hq.out; omega, hlt.out⟩, hE, Lib.hid (by have := hxl.out; omega), Lib.hid (Kd.R_drewN hO.out _), Lib.hid (blk_drewN bP.out _), Lib.hid (blk_drewN bS.out _), Lib.hid (pw_below_drewN hB.out _)⟩, ?_⟩
            simp only [intOf]; have := hq.out; have := hlt.out; omega
          · have te2 : xa.toList.isEmpty = false := toList_nil.2 hn2
            rw [if_neg hn2] at hst
            by_cases hE2 : xb.toList = xa.toList
            · have tE : (xb.toList == xa.toList) = true := by simpa using hE2
              rw [if_pos hE2] at hst
              have hE : V = xs ++ wrongs cells sc (sc.length - (i + 1)) (i + 1) := by rw [hrb.out, hst]
              replace hE := Lib.hid hE
              replace hlt := Lib.hid hlt
              clear hst hrb
              go_wp2
              go_quiet (fail)
              go_wp2
              refine ⟨⟨i + 1, q + 1, xs, rfl, Lib.hid ⟨by have := hq.out; omega, hlt.out⟩, hE, Lib.hid (by have := hxl.out; omega), Lib.hid (Kd.R_drewN hO.out _), Lib.hid (blk_drewN bP.out _), Lib.hid (blk_drewN bS.out _), Lib.hid (pw_below_drewN hB.out _)⟩, ?_⟩
              simp only [intOf]; have := hq.out; have := hlt.out; omega
            · have tE : (xb.toList == xa.toList) = false := by simpa using hE2
              rw [if_neg hE2] at hst
              have hE : V = (xs ++ [q]) ++ wrongs cells sc (sc.length - (i + 1)) (i + 1) := by rw [hrb.out, hst, List.append_assoc]; rfl
              replace hE := Lib.hid hE
              replace hlt := Lib.hid hlt
              have hlen : xs.length + 1 < 17592186044416 := by have := hxl.out; have := hlt.out; have := hsl.out; have := hz.l; omega
              replace hlen := Lib.hid hlen
              clear hst hrb
              go_wp2
              go_quiet (fail)
              go_wp2_with (first
                | ((with_reducible refine gate_builtin (b := .append) (xs := #[.tmp 49, .tmp 51]) rfl ?_); go_must (at_builtin; refine Kd.R_append (Kd.int .i64) (w0 := w) w.heap.size rfl (.tmp 49) (.tmp 51) 45 3 (.int .i64 0) 8 rfl Tryd.underlying45 int_info rfl (by decide) (by decide) _ xs q [.int .i64 q] (fun _ => True) (fun _ => False) rfl rfl ?aP (fun _ hk => hk.elim) ?aF ?aO ?aB ?aS ?aL ?_; (case aP => exact rfl); (case aB => exact pw_below_drewN hB.out _); (case aF => exact (fun _ _ => trivial)); (case aO => exact Kd.R_drewN hO.out _); (case aS => exact hB.out.size); (case aL => have := hlen.out; omega); intro v6 w6 ho6 hb6 hg6 hat6)))
              refine ⟨⟨i + 1, q + 1, xs ++ [q], rfl, Lib.hid ⟨by have := hq.out; omega, hlt.out⟩, hE, Lib.hid (by have := hxl.out; simp only [List.length_append, List.length_singleton]; omega), Lib.hid ho6, Lib.hid (blk_grown (blk_drewN bP.out nq) hg6 (Kd.R_ne (Kd.R_drewN hO.out nq) (blk_drewN bP.out nq) (by decide))), Lib.hid (blk_grown (blk_drewN bS.out nq) hg6 (Kd.R_ne (Kd.R_drewN hO.out nq) (blk_drewN bS.out nq) (by decide))), Lib.hid hb6⟩, ?_⟩
              simp only [intOf]; have := hq.out; have := hlt.out; omega
      · have hge : ¬ q < (sc.length : Int) := by have := hq.out; omega
        have hE : V = xs := by rw [hrb.out, show sc.length - i = 0 by have := hq.out; omega]; simp [wrongs]
        replace hE := Lib.hid hE
        clear hrb
        go_wp2
        go_ret2
        exact ⟨_, rfl, by rw [hE.out]; exact hO.out, hB.out⟩
  · have tp : (scheck title H W bl ri be cells clues sc ss at_ != 0) = true := bne_iff_ne.2 hp
    have hv : swrong title H W bl ri be cells clues sc ss at_ = ([], scheck title H W bl ri be cells clues sc ss at_) := by unfold swrong; rw [if_neg hp]
    rw [hv]
    clear hv hp
    obtain ⟨pe, hpe⟩ : ∃ x, scheck title H W bl ri be cells clues sc ss at_ = x := ⟨_, rfl⟩
    rw [hpe] at tp ⊢
    dsimp only
    replace hpe := Lib.hid hpe
    go_enter Tryd.func17, Tryd.ntmps17
    go_wp2_with (first
      | (go_at_call 14; go_must (refine (rebusref23_Check.calls (hP.below hx.out.2.2) (hS.below hx.out.2.2) hz hzs).mono ?_; rintro e w3 ⟨rfl, hb3⟩; rw [hpe.out]; have hB3 := Lib.hid (below_step hx.out.2.2 hb3); have bP := Lib.hid (blk_below hx.out.1 hb3); have bS := Lib.hid (blk_below hx.out.2.1 hb3); have p3 := cells8 bP.out; have s3 := cells4 bS.out; clear hb3)))
    go_ret2
    exact ⟨_, rfl, Kd.R_nil _ _ _ _ _, hB3.out⟩
end Go.Proofs.YtiipailmldbpbaaDoor.Q
end
section
namespace Go.Proofs.YtiipailmldbpbaaDoor.Q
open Go.RowKit Go.Proofs.YtiipailmldbpbaaDoorW.PrintWords Go.Proofs.YtiipailmldbpbaaDoorW.PrintLast Go.Proofs.YtiipailmldbpbaaDoorW.PrintMore
set_option linter.unusedVariables false
set_option linter.unusedSimpArgs false
open Go.Proofs.YtiipailmldbpbaaDoorS
set_option maxHeartbeats 8000000 in
set_option maxRecDepth 1000000 in
theorem rebusref23_Start.calls {title : ByteArray} {H W : Int} {A2 : Option Addr} {c2 : Nat} {bl : List Bool} {A3 : Option Addr} {c3 : Nat} {ri : List Bool} {A4 : Option Addr} {c4 : Nat} {be : List Bool} {A5 : Option Addr} {c5 : Nat} {cells : List ByteArray} {A6 : Option Addr} {c6 : Nat} {clues : List ByteArray} {w : World} (hP : PuzR A2 c2 bl A3 c3 ri A4 c4 be A5 c5 cells A6 c6 clues w) (hz : PuzS title cells clues) :
    Calls Tryd.prog 11 #[.agg #[.string title, .int .i64 H, .int .i64 W, .slice A2 bl.length c2, .slice A3 ri.length c3, .slice A4 be.length c4, .slice A5 cells.length c5, .slice A6 clues.length c6]] w (DoPost w (sstart title H W bl ri be cells clues)) := by
  have hx := box2 w (.cells #[.string title, .int .i64 H, .int .i64 W, .slice A2 bl.length c2, .slice A3 ri.length c3, .slice A4 be.length c4, .slice A5 cells.length c5, .slice A6 clues.length c6] 27) (.cells #[.slice none 0 0, .slice none 0 0, .int .i64 0, .bool false] 30)
  replace hx := Lib.hid hx
  have hu27 := Tryd.underlying27
  have hu24 := Tryd.underlying24
  have hu30 := Tryd.underlying30
  by_cases hp : pcheck title H W bl ri be cells clues = 0
  · have tp : ((0 : Int) != 0) = false := rfl
    have hbl : cells.length = bl.length := (pcheck_ok hp).2.1
    obtain ⟨V, hV⟩ : ∃ V, sstart title H W bl ri be cells clues = V := ⟨_, rfl⟩
    have hv : V = if firstOpen bl bl.length 0 < 0 then ([], [], 0, false, 230) else (List.replicate cells.length ⟨#[]⟩, List.replicate cells.length false, firstOpen bl bl.length 0, false, 0) := by rw [← hV]; unfold sstart; rw [if_pos hp]
    rw [hV]
    clear hV
    obtain ⟨l3, hl3⟩ : ∃ l : List ByteArray, l = List.replicate cells.length ⟨#[]⟩ := ⟨_, rfl⟩
    obtain ⟨l7, hl7⟩ : ∃ l : List Bool, l = List.replicate cells.length false := ⟨_, rfl⟩
    rw [← hl3, ← hl7] at hv
    replace hv := Lib.hid hv
    replace hl3 := Lib.hid hl3
    replace hl7 := Lib.hid hl7
    replace hbl := Lib.hid hbl
    replace hp := Lib.hid hp
    go_enter Tryd.func11, Tryd.ntmps11
    go_wp2_with (first
      | (go_at_call 28; go_must (refine (rebusref21_Check.calls (hP.below hx.out.2.2) hz).mono ?_; rintro e w3 ⟨rfl, hb3⟩; rw [hp.out]; have hB3 := Lib.hid (below_step hx.out.2.2 hb3); have bP := Lib.hid (blk_below hx.out.1 hb3); have bT := Lib.hid (blk_below hx.out.2.1 hb3); have p3 := cells8 bP.out; have t3 := cells4 bT.out; have f3 := frozen4 bT.out; have y3 := blk_lt bT.out; clear hb3)))
    go_loopw [5] (fun v5 wr => ∃ (i : Nat) (q : Int), v5 = .int .i64 q ∧ Hid (q = i ∧ i ≤ cells.length) ∧ Hid (firstOpen bl bl.length 0 = firstOpen bl (bl.length - i) i) ∧ Hid (wr.heap[w.heap.size]? = some (.cells #[.string title, .int .i64 H, .int .i64 W, .slice A2 bl.length c2, .slice A3 ri.length c3, .slice A4 be.length c4, .slice A5 cells.length c5, .slice A6 clues.length c6] 27 (0, 0))) ∧ Hid (wr.heap[w.heap.size + 1]? = some (.cells #[.slice none 0 0, .slice none 0 0, .int .i64 0, .bool false] 30 (0, 0))) ∧ Hid (Below w.heap.size w wr)) (fun v5 _ => cells.length - (intOf v5).toNat)
    case atStart => exact ⟨0, 0, rfl, Lib.hid ⟨rfl, Nat.zero_le _⟩, Lib.hid rfl, bP, bT, hB3⟩
    case round =>
      clear hB3 bP bT p3 t3 f3 y3 tp
      obtain ⟨i, q, rfl, hq, hrb, bP, bT, hB⟩ := hrel
      have p4 := cells8 bP.out
      have t4 := cells4 bT.out
      have f4 := frozen4 bT.out
      have y4 := blk_lt bT.out
      by_cases hlt : i < cells.length
      · have hq0 : 0 ≤ q := by have := hq.out; omega
        have hq1 : q < (bl.length : Int) := by have := hq.out; have := hbl.out; omega
        have hq2 : q < (cells.length : Int) := by have := hq.out; omega
        have hq3 : q < 1048576 := by have := hz.l; omega
        obtain ⟨ad, eA, zx⟩ := Kd.at_bool (hP.below hB.out).r2 q hq0 hq1
        cases eA
        have hst := firstOpen_step (bl := bl) (n := bl.length) (i := i) (by have := hbl.out; omega)
        rw [← hq.out.1] at hst
        obtain ⟨xa, hxa⟩ : ∃ x, rdOf false bl q = x := ⟨_, rfl⟩
        rw [hxa] at hst zx
        clear hxa
        cases xa with
        | true =>
          have hE : firstOpen bl bl.length 0 = firstOpen bl (bl.length - (i + 1)) (i + 1) := by rw [hrb.out, hst]; rfl
          replace hE := Lib.hid hE
          replace hlt := Lib.hid hlt
          clear hst hrb
          go_wp2
          refine ⟨⟨i + 1, q + 1, rfl, Lib.hid ⟨by have := hq.out; omega, hlt.out⟩, hE, bP, bT, hB⟩, ?_⟩
          simp only [intOf]; have := hq.out; have := hlt.out; omega
        | false =>
          have hf : firstOpen bl bl.length 0 = q := by rw [hrb.out, hst]; rfl
          have hE : V = (l3, l7, q, false, 0) := by rw [hv.out, hf, if_neg (by omega)]
          replace hE := Lib.hid hE
          clear hst hrb hf
          go_wp2
          refine start_ (n := 12) (S := fun w' => w'.cell? ⟨w.heap.size, 6, none⟩ = some (.slice A5 cells.length c5)) (ds := []) #[false, false, false, false, false, false, false, false, false, false, false, false] (by kernel_rfl) rfl rfl ((blk_cell (blk_drew bP.out) 6).trans rfl) (fun hHeld => ?_)
          refine pure_ (i := 0) (N := some 26) (v := ?_) (a' := ?_) #[true, false, false, false, false, false, false, false, false, false, false, false] rfl rfl (by kernel_rfl) (fun _ _ _ h => h) (Or.inl ⟨by rfl, ?_⟩) ?_ ?_
          rotate_left
          · intro w'; go_simp; with_reducible rfl
          rotate_left
          · simp only [Act.put, List.setIfInBounds_toArray, List.set_cons_zero, List.set_cons_succ, i64_w, i32_w]; rfl
          refine pure_ (i := 4) (N := some 30) (v := ?_) (a' := ?_) #[true, false, false, false, true, false, false, false, false, false, false, false] rfl rfl (by kernel_rfl) (fun _ _ _ h => h) (Or.inl ⟨by rfl, ?_⟩) ?_ ?_
          rotate_left
          · intro w'; go_simp; with_reducible rfl
          rotate_left
          · simp only [Act.put, List.setIfInBounds_toArray, List.set_cons_zero, List.set_cons_succ, i64_w, i32_w]; rfl
          refine pure_ (i := 8) (N := some 34) (v := ?_) (a' := ?_) #[true, false, false, false, true, false, false, false, true, false, false, false] rfl rfl (by kernel_rfl) (fun _ _ _ h => h) (Or.inl ⟨by rfl, ?_⟩) ?_ ?_
          rotate_left
          · intro w'; go_simp; with_reducible rfl
          rotate_left
          · simp only [Act.put, List.setIfInBounds_toArray, List.set_cons_zero, List.set_cons_succ, i64_w, i32_w]; rfl
          refine take_ (i := 1) (N := some 27) (v := ?_) (a' := ?_) #[true, true, false, false, true, false, false, false, true, false, false, false] rfl rfl (by kernel_rfl) (fun _ _ _ h => h) (Or.inl ⟨by rfl, ?_⟩) hHeld ?_ ?_
          rotate_left
          · intro w' s0; go_simp; with_reducible rfl
          rotate_left
          · simp only [Act.put, List.setIfInBounds_toArray, List.set_cons_zero, List.set_cons_succ, i64_w, i32_w]; rfl
          refine pure_ (i := 2) (N := some 28) (v := ?_) (a' := ?_) #[true, true, true, false, true, false, false, false, true, false, false, false] rfl rfl (by kernel_rfl) (fun _ _ _ h => h) (Or.inl ⟨by rfl, ?_⟩) ?_ ?_
          rotate_left
          · intro w'; go_simp; with_reducible rfl
          rotate_left
          · simp only [Act.put, List.setIfInBounds_toArray, List.set_cons_zero, List.set_cons_succ, i64_w, i32_w]; rfl
          refine take_ (i := 5) (N := some 31) (v := ?_) (a' := ?_) #[true, true, true, false, true, true, false, false, true, false, false, false] rfl rfl (by kernel_rfl) (fun _ _ _ h => h) (Or.inl ⟨by rfl, ?_⟩) hHeld ?_ ?_
          rotate_left
          · intro w' s0; go_simp; with_reducible rfl
          rotate_left
          · simp only [Act.put, List.setIfInBounds_toArray, List.set_cons_zero, List.set_cons_succ, i64_w, i32_w]; rfl
          refine pure_ (i := 6) (N := some 32) (v := ?_) (a' := ?_) #[true, true, true, false, true, true, true, false, true, false, false, false] rfl rfl (by kernel_rfl) (fun _ _ _ h => h) (Or.inl ⟨by rfl, ?_⟩) ?_ ?_
          rotate_left
          · intro w'; go_simp; with_reducible rfl
          rotate_left
          · simp only [Act.put, List.setIfInBounds_toArray, List.set_cons_zero, List.set_cons_succ, i64_w, i32_w]; rfl
          refine two_ (i := 3) (j := 7) (Ni := some 29) (Nj := some 33) #[true, true, true, true, true, true, true, false, true, false, false, false] #[true, true, true, false, true, true, true, true, true, false, false, false] rfl rfl rfl rfl (by kernel_rfl) (by decide) (by decide) (fun K hK => ?_) (fun K hK => ?_)
          · refine Kd.R_make_step Kd.string _ 9 (by rfl) (N := 29) rfl 25 _ _ rfl (cells.length : Int) rfl rfl Tryd.underlying25 (.string ⟨#[]⟩) 16 str_info rfl (by decide) (by decide) (⟨#[]⟩ : ByteArray) (ok := fun _ => True) (okp := fun _ => True) rfl (fun _ hk => hk) trivial (by omega) (by have := hz.l; omega) (Below.refl _ _) (Nat.le_refl _) ?_
            intro v3 w6 ho3 hb _ _
            rw [Int.toNat_natCast, ← hl3.out] at ho3
            obtain ⟨A39, k39, rfl⟩ := Kd.R_slice ho3
            have R3 := Kd.R_lower ho3 (below_size (below_drew hB.out))
            have bP6 := blk_below (blk_drew bP.out) hb
            have bT6 := blk_below (blk_drew bT.out) hb
            have hB6 := below_step (below_drew hB.out) hb
            clear hb ho3
            refine hK.out _ _ ((blk_cell bP6 6).trans rfl) (fun hHeld => ?_)
            clear hK K
            refine norm_ (a' := ?_) ?_ ?_
            rotate_left
            · show Act.put _ (some 29) _ = _
              simp only [Act.put, List.setIfInBounds_toArray, List.set_cons_zero, List.set_cons_succ, i64_w, i32_w]
              rfl
            refine one_ (i := 7) (N := some 33) #[true, true, true, true, true, true, true, true, true, false, false, false] rfl rfl (by kernel_rfl) (by decide) (fun K hK => ?_)
            refine Kd.R_make_step Kd.bool _ 4 (by rfl) (N := 33) rfl 22 _ _ rfl (cells.length : Int) rfl rfl Tryd.underlying22 (.bool false) 1 bool_info rfl (by decide) (by decide) false (ok := fun _ => True) (okp := fun _ => True) rfl (fun _ hk => hk) trivial (by omega) (by have := hz.l; omega) (Below.refl _ _) (Nat.le_refl _) ?_
            intro v7 w8 ho7 hb _ _
            rw [Int.toNat_natCast, ← hl7.out] at ho7
            obtain ⟨A79, k79, rfl⟩ := Kd.R_slice ho7
            have R7 := Kd.R_lower ho7 (below_size hB6)
            have R38 := Kd.R_below R3 hb
            have R78 := R7
            have bP8 := blk_below bP6 hb
            have bT8 := blk_below bT6 hb
            have hB8 := below_step hB6 hb
            clear hb ho7
            refine hK.out _ _ ((blk_cell bP8 6).trans rfl) (fun hHeld => ?_)
            clear hK K
            refine norm_ (a' := ?_) ?_ ?_
            rotate_left
            · show Act.put _ (some 33) _ = _
              simp only [Act.put, List.setIfInBounds_toArray, List.set_cons_zero, List.set_cons_succ, i64_w, i32_w]
              rfl
            refine pure_ (i := 9) (N := some 35) (v := ?_) (a' := ?_) #[true, true, true, true, true, true, true, true, true, true, false, false] rfl rfl (by kernel_rfl) (fun _ _ _ h => h) (Or.inl ⟨by rfl, ?_⟩) ?_ ?_
            rotate_left
            · intro w'; go_simp; with_reducible rfl
            rotate_left
            · simp only [Act.put, List.setIfInBounds_toArray, List.set_cons_zero, List.set_cons_succ, i64_w, i32_w]; rfl
            refine one_ (i := 10) (N := none) #[true, true, true, true, true, true, true, true, true, true, true, false] rfl rfl (by kernel_rfl) (by decide) (fun K hK => ?_)
            have t8 := cells4 bT8
            have f8 := frozen4 bT8
            have F8 := put4_facts bT8 (.slice A39 l3.length k39) (.slice A79 l7.length k79) (.int .i64 q) (.bool false)
            refine skip_ (w1 := put4 w8 (w.heap.size + 1) (.slice A39 l3.length k39) (.slice A79 l7.length k79) (.int .i64 q) (.bool false)) (by rfl) rfl (by first | (go_simp; done) | (go_simp; rfl)) ?_
            generalize put4 w8 (w.heap.size + 1) (.slice A39 l3.length k39) (.slice A79 l7.length k79) (.int .i64 q) (.bool false) = w9 at F8 ⊢
            have bP9 := (F8.2.1 _ (by omega)).trans bP8
            refine hK.out _ _ ((blk_cell bP9 6).trans rfl) (fun hHeld => ?_)
            clear hK K
            refine pure_ (i := 11) (N := some 3) (v := ?_) (a' := ?_) #[true, true, true, true, true, true, true, true, true, true, true, true] rfl rfl (by kernel_rfl) (fun _ _ _ h => h) (Or.inl ⟨by rfl, ?_⟩) ?_ ?_
            rotate_left
            · intro w'; go_simp; with_reducible rfl
            rotate_left
            · simp only [Act.put, List.setIfInBounds_toArray, List.set_cons_zero, List.set_cons_succ, i64_w, i32_w]; rfl
            refine done_ (by kernel_rfl) ?_
            try go_wp2
            refine bodyPost_ret (results_ct rfl _ _ (w.heap.size + 1) 30 #[.slice A39 l3.length k39, .slice A79 l7.length k79, .int .i64 q, .bool false] (0, 0) _ rfl F8.1 Tryd.underlying30 rfl (by kernel_rfl)) rfl ?_
            rw [hE.out]
            exact ⟨_, _, rfl, R_of_heap R38 bT8 (by decide) F8.2.1, R_of_heap R78 bT8 (by decide) F8.2.1, F8.2.2 _ _ hB8 (by omega)⟩
          · refine Kd.R_make_step Kd.bool _ 4 (by rfl) (N := 33) rfl 22 _ _ rfl (cells.length : Int) rfl rfl Tryd.underlying22 (.bool false) 1 bool_info rfl (by decide) (by decide) false (ok := fun _ => True) (okp := fun _ => True) rfl (fun _ hk => hk) trivial (by omega) (by have := hz.l; omega) (Below.refl _ _) (Nat.le_refl _) ?_
            intro v7 w6 ho7 hb _ _
            rw [Int.toNat_natCast, ← hl7.out] at ho7
            obtain ⟨A79, k79, rfl⟩ := Kd.R_slice ho7
            have R7 := Kd.R_lower ho7 (below_size (below_drew hB.out))
            have bP6 := blk_below (blk_drew bP.out) hb
            have bT6 := blk_below (blk_drew bT.out) hb
            have hB6 := below_step (below_drew hB.out) hb
            clear hb ho7
            refine hK.out _ _ ((blk_cell bP6 6).trans rfl) (fun hHeld => ?_)
            clear hK K
            refine norm_ (a' := ?_) ?_ ?_
            rotate_left
            · show Act.put _ (some 33) _ = _
              simp only [Act.put, List.setIfInBounds_toArray, List.set_cons_zero, List.set_cons_succ, i64_w, i32_w]
              rfl
            refine one_ (i := 3) (N := some 29) #[true, true, true, true, true, true, true, true, true, false, false, false] rfl rfl (by kernel_rfl) (by decide) (fun K hK => ?_)
            refine Kd.R_make_step Kd.string _ 9 (by rfl) (N := 29) rfl 25 _ _ rfl (cells.length : Int) rfl rfl Tryd.underlying25 (.string ⟨#[]⟩) 16 str_info rfl (by decide) (by decide) (⟨#[]⟩ : ByteArray) (ok := fun _ => True) (okp := fun _ => True) rfl (fun _ hk => hk) trivial (by omega) (by have := hz.l; omega) (Below.refl _ _) (Nat.le_refl _) ?_
            intro v3 w8 ho3 hb _ _
            rw [Int.toNat_natCast, ← hl3.out] at ho3
            obtain ⟨A39, k39, rfl⟩ := Kd.R_slice ho3
            have R3 := Kd.R_lower ho3 (below_size hB6)
            have R78 := Kd.R_below R7 hb
            have R38 := R3
            have bP8 := blk_below bP6 hb
            have bT8 := blk_below bT6 hb
            have hB8 := below_step hB6 hb
            clear hb ho3
            refine hK.out _ _ ((blk_cell bP8 6).trans rfl) (fun hHeld => ?_)
            clear hK K
            refine norm_ (a' := ?_) ?_ ?_
            rotate_left
            · show Act.put _ (some 29) _ = _
              simp only [Act.put, List.setIfInBounds_toArray, List.set_cons_zero, List.set_cons_succ, i64_w, i32_w]
              rfl
            refine pure_ (i := 9) (N := some 35) (v := ?_) (a' := ?_) #[true, true, true, true, true, true, true, true, true, true, false, false] rfl rfl (by kernel_rfl) (fun _ _ _ h => h) (Or.inl ⟨by rfl, ?_⟩) ?_ ?_
            rotate_left
            · intro w'; go_simp; with_reducible rfl
            rotate_left
            · simp only [Act.put, List.setIfInBounds_toArray, List.set_cons_zero, List.set_cons_succ, i64_w, i32_w]; rfl
            refine one_ (i := 10) (N := none) #[true, true, true, true, true, true, true, true, true, true, true, false] rfl rfl (by kernel_rfl) (by decide) (fun K hK => ?_)
            have t8 := cells4 bT8
            have f8 := frozen4 bT8
            have F8 := put4_facts bT8 (.slice A39 l3.length k39) (.slice A79 l7.length k79) (.int .i64 q) (.bool false)
            refine skip_ (w1 := put4 w8 (w.heap.size + 1) (.slice A39 l3.length k39) (.slice A79 l7.length k79) (.int .i64 q) (.bool false)) (by rfl) rfl (by first | (go_simp; done) | (go_simp; rfl)) ?_
            generalize put4 w8 (w.heap.size + 1) (.slice A39 l3.length k39) (.slice A79 l7.length k79) (.int .i64 q) (.bool false) = w9 at F8 ⊢
            have bP9 := (F8.2.1 _ (by omega)).trans bP8
            refine hK.out _ _ ((blk_cell bP9 6).trans rfl) (fun hHeld => ?_)
            clear hK K
            refine pure_ (i := 11) (N := some 3) (v := ?_) (a' := ?_) #[true, true, true, true, true, true, true, true, true, true, true, true] rfl rfl (by kernel_rfl) (fun _ _ _ h => h) (Or.inl ⟨by rfl, ?_⟩) ?_ ?_
            rotate_left
            · intro w'; go_simp; with_reducible rfl
            rotate_left
            · simp only [Act.put, List.setIfInBounds_toArray, List.set_cons_zero, List.set_cons_succ, i64_w, i32_w]; rfl
            refine done_ (by kernel_rfl) ?_
            try go_wp2
            refine bodyPost_ret (results_ct rfl _ _ (w.heap.size + 1) 30 #[.slice A39 l3.length k39, .slice A79 l7.length k79, .int .i64 q, .bool false] (0, 0) _ rfl F8.1 Tryd.underlying30 rfl (by kernel_rfl)) rfl ?_
            rw [hE.out]
            exact ⟨_, _, rfl, R_of_heap R38 bT8 (by decide) F8.2.1, R_of_heap R78 bT8 (by decide) F8.2.1, F8.2.2 _ _ hB8 (by omega)⟩
      · have hge : ¬ q < (cells.length : Int) := by have := hq.out; omega
        have hf : firstOpen bl bl.length 0 = -1 := by rw [hrb.out, show bl.length - i = 0 by have := hq.out; have := hbl.out; omega]; rfl
        have hE : V = ([], [], 0, false, 230) := by rw [hv.out, hf]; rfl
        replace hE := Lib.hid hE
        clear hrb hf
        go_wp2_with (first | ((with_reducible refine gate_store (t := 30) (p := 2) (v := .tmp 36) rfl ?_); go_must (refine store_event (w1 := put4 wr (w.heap.size + 1) (.slice none 0 0) (.slice none 0 0) (.int .i64 0) (.bool false)) (by rfl) (by rfl) (by rfl) ?hr ?_; (case hr => first | (go_simp; done) | (go_simp; rfl)); intro w5 hw5; have Fw5 := put4_facts bT.out (.slice none 0 0) (.slice none 0 0) (.int .i64 0) (.bool false); rw [← hw5] at Fw5; have hB5 := Lib.hid (Fw5.2.2 _ _ hB.out (by omega)); have bT5 := Lib.hid Fw5.1; clear hw5 Fw5)))
        refine bodyPost_ret (results_ct rfl _ _ (w.heap.size + 1) 30 #[.slice none 0 0, .slice none 0 0, .int .i64 0, .bool false] (0, 0) _ rfl bT5.out Tryd.underlying30 rfl (by kernel_rfl)) rfl ?_
        rw [hE.out]
        exact ⟨_, _, rfl, Kd.R_nil _ _ _ _ _, Kd.R_nil _ _ _ _ _, hB5.out⟩
  · have tp : (pcheck title H W bl ri be cells clues != 0) = true := bne_iff_ne.2 hp
    have hv : sstart title H W bl ri be cells clues = ([], [], 0, false, pcheck title H W bl ri be cells clues) := by unfold sstart; rw [if_neg hp]
    rw [hv]
    clear hv hp
    obtain ⟨pe, hpe⟩ : ∃ x, pcheck title H W bl ri be cells clues = x := ⟨_, rfl⟩
    rw [hpe] at tp ⊢
    replace hpe := Lib.hid hpe
    go_enter Tryd.func11, Tryd.ntmps11
    go_wp2_with (first
      | (go_at_call 28; go_must (refine (rebusref21_Check.calls (hP.below hx.out.2.2) hz).mono ?_; rintro e w3 ⟨rfl, hb3⟩; rw [hpe.out]; have hB3 := Lib.hid (below_step hx.out.2.2 hb3); have bP := Lib.hid (blk_below hx.out.1 hb3); have bT := Lib.hid (blk_below hx.out.2.1 hb3); have p3 := cells8 bP.out; have t3 := cells4 bT.out; have f3 := frozen4 bT.out; have y3 := blk_lt bT.out; clear hb3))
      | ((with_reducible refine gate_store (t := 30) (p := 2) (v := .tmp 10) rfl ?_); go_must (refine store_event (w1 := put4 w3 (w.heap.size + 1) (.slice none 0 0) (.slice none 0 0) (.int .i64 0) (.bool false)) (by rfl) (by rfl) (by rfl) ?hr ?_; (case hr => first | (go_simp; done) | (go_simp; rfl)); intro w5 hw5; have Fw5 := put4_facts bT.out (.slice none 0 0) (.slice none 0 0) (.int .i64 0) (.bool false); rw [← hw5] at Fw5; have hB5 := Lib.hid (Fw5.2.2 _ _ hB3.out (by omega)); have bT5 := Lib.hid Fw5.1; clear hw5 Fw5)))
    refine bodyPost_ret (results_ct rfl _ _ (w.heap.size + 1) 30 #[.slice none 0 0, .slice none 0 0, .int .i64 0, .bool false] (0, 0) _ rfl bT5.out Tryd.underlying30 rfl (by kernel_rfl)) rfl ?_
    exact ⟨_, _, rfl, Kd.R_nil _ _ _ _ _, Kd.R_nil _ _ _ _ _, hB5.out⟩
end Go.Proofs.YtiipailmldbpbaaDoor.Q
end
section
namespace Go.Proofs.YtiipailmldbpbaaDoor.Q
open Go.RowKit Go.Proofs.YtiipailmldbpbaaDoorW.PrintWords Go.Proofs.YtiipailmldbpbaaDoorW.PrintLast Go.Proofs.YtiipailmldbpbaaDoorW.PrintMore
set_option linter.unusedVariables false
set_option linter.unusedSimpArgs false
open Go.Proofs.YtiipailmldbpbaaDoorS
set_option maxHeartbeats 8000000 in
set_option maxRecDepth 1000000 in
theorem rebusref01_SameTexts.calls {A B : Option Addr} {c d : Nat} {l : List ByteArray} {w : World} (hl : l.length ≤ 1048576) (ha : Kd.C Kd.string w A l.length l) (hb : Kd.C Kd.string w B l.length l) :
    Calls Tryd.prog 29 #[.slice A l.length c, .slice B l.length d] w fun e w' => e = .returned (.bool true) ∧ Below w.heap.size w w' := by
  have t0 : ((l.length : Int) != (l.length : Int)) = false := by simp
  go_enter Tryd.func29, Tryd.ntmps29
  go_wp2
  go_loopw [5] (fun v5 wr => ∃ (i : Nat) (q : Int), v5 = .int .i64 q ∧ Hid (q = i ∧ i ≤ l.length) ∧ Hid (Below w.heap.size w wr)) (fun v5 _ => l.length - (intOf v5).toNat)
  case atStart => exact ⟨0, 0, rfl, Lib.hid ⟨rfl, Nat.zero_le _⟩, Lib.hid (Below.refl _ _)⟩
  case round =>
    obtain ⟨i, q, rfl, hq, hB⟩ := hrel
    by_cases hlt : i < l.length
    · have hq0 : 0 ≤ q := by have := hq.out; omega
      have hq1 : q < (l.length : Int) := by have := hq.out; omega
      have hq3 : q < 1048576 := by omega
      obtain ⟨ad, eA, z0⟩ := Kd.at_string (Kd.C_below ha hB.out) q hq0 hq1
      obtain ⟨ad2, eA2, z1⟩ := Kd.at_string (Kd.C_below hb hB.out) q hq0 hq1
      cases eA
      cases eA2
      obtain ⟨x, hx⟩ : ∃ x, rdOf ByteArray.empty l q = x := ⟨_, rfl⟩
      rw [hx] at z0 z1
      replace hlt := Lib.hid hlt
      clear hx
      go_wp2
      go_quiet (fail)
      go_wp2
      refine ⟨⟨i + 1, q + 1, rfl, Lib.hid ⟨by have := hq.out; omega, hlt.out⟩, Lib.hid (pw_below_drewN hB.out _)⟩, ?_⟩
      simp only [intOf]; have := hq.out; have := hlt.out; omega
    · have hge : ¬ q < (l.length : Int) := by have := hq.out; omega
      go_wp2
      go_ret
      exact ⟨rfl, hB.out⟩
set_option maxHeartbeats 8000000 in
set_option maxRecDepth 1000000 in
theorem rebusref01_SameInts.calls {A B : Option Addr} {c d : Nat} {l : List Int} {w : World} (hl : l.length ≤ 1048576) (ha : Kd.C (Kd.int .i64) w A l.length l) (hb : Kd.C (Kd.int .i64) w B l.length l) :
    Calls Tryd.prog 18 #[.slice A l.length c, .slice B l.length d] w fun e w' => e = .returned (.bool true) ∧ Below w.heap.size w w' := by
  have t0 : ((l.length : Int) != (l.length : Int)) = false := by simp
  go_enter Tryd.func18, Tryd.ntmps18
  go_wp2
  go_loopw [5] (fun v5 wr => ∃ (i : Nat) (q : Int), v5 = .int .i64 q ∧ Hid (q = i ∧ i ≤ l.length) ∧ Hid (Below w.heap.size w wr)) (fun v5 _ => l.length - (intOf v5).toNat)
  case atStart => exact ⟨0, 0, rfl, Lib.hid ⟨rfl, Nat.zero_le _⟩, Lib.hid (Below.refl _ _)⟩
  case round =>
    obtain ⟨i, q, rfl, hq, hB⟩ := hrel
    by_cases hlt : i < l.length
    · have hq0 : 0 ≤ q := by have := hq.out; omega
      have hq1 : q < (l.length : Int) := by have := hq.out; omega
      have hq3 : q < 1048576 := by omega
      obtain ⟨ad, eA, z0⟩ := Kd.at_int (Kd.C_below ha hB.out) q hq0 hq1
      obtain ⟨ad2, eA2, z1⟩ := Kd.at_int (Kd.C_below hb hB.out) q hq0 hq1
      cases eA
      cases eA2
      obtain ⟨x, hx⟩ : ∃ x, rd l q = x := ⟨_, rfl⟩
      rw [hx] at z0 z1
      replace hlt := Lib.hid hlt
      clear hx
      go_wp2
      go_quiet (fail)
      go_wp2
      refine ⟨⟨i + 1, q + 1, rfl, Lib.hid ⟨by have := hq.out; omega, hlt.out⟩, Lib.hid (pw_below_drewN hB.out _)⟩, ?_⟩
      simp only [intOf]; have := hq.out; have := hlt.out; omega
    · have hge : ¬ q < (l.length : Int) := by have := hq.out; omega
      go_wp2
      go_ret
      exact ⟨rfl, hB.out⟩
set_option maxHeartbeats 8000000 in
set_option maxRecDepth 1000000 in
theorem rebusref23_Same.calls {A B A2 B2 : Option Addr} {c d c2 d2 : Nat} {l : List ByteArray} {b : List Bool} {at_ : Int} {dn : Bool} {w : World} (hl : l.length ≤ 1048576) (hm : b.length ≤ 1048576) (h1 : ShtR A c l B d b w) (h2 : ShtR A2 c2 l B2 d2 b w) :
    Calls Tryd.prog 12 #[.agg #[.slice A l.length c, .slice B b.length d, .int .i64 at_, .bool dn], .agg #[.slice A2 l.length c2, .slice B2 b.length d2, .int .i64 at_, .bool dn]] w fun e w' => e = .returned (.bool true) ∧ Below w.heap.size w w' := by
  have hx := box2 w (.cells #[.slice A l.length c, .slice B b.length d, .int .i64 at_, .bool dn] 30) (.cells #[.slice A2 l.length c2, .slice B2 b.length d2, .int .i64 at_, .bool dn] 30)
  replace hx := Lib.hid hx
  have hu30 := Tryd.underlying30
  have t0 : ((b.length : Int) != (b.length : Int)) = false := by simp
  have t1 : (at_ != at_) = false := by simp
  have t2 : (dn != dn) = false := by simp
  have t3 : (dn == dn) = true := by simp
  go_enter Tryd.func12, Tryd.ntmps12
  go_wp2_with (first
    | (go_at_call 29; go_must (refine (rebusref01_SameTexts.calls hl (h1.below hx.out.2.2).r7 (h2.below hx.out.2.2).r7).mono ?_; rintro e w3 ⟨rfl, hb3⟩; have hB3 := Lib.hid (below_step hx.out.2.2 hb3); have bP := Lib.hid (blk_below hx.out.1 hb3); have bS := Lib.hid (blk_below hx.out.2.1 hb3); have p3 := cells4 bP.out; have q3 := cells4 bS.out; clear hb3)))
  go_loopw [5] (fun v5 wr => ∃ (i : Nat) (q : Int), v5 = .int .i64 q ∧ Hid (q = i ∧ i ≤ b.length) ∧ Hid (wr.heap[w.heap.size]? = some (.cells #[.slice A l.length c, .slice B b.length d, .int .i64 at_, .bool dn] 30 (0, 0))) ∧ Hid (wr.heap[w.heap.size + 1]? = some (.cells #[.slice A2 l.length c2, .slice B2 b.length d2, .int .i64 at_, .bool dn] 30 (0, 0))) ∧ Hid (Below w.heap.size w wr)) (fun v5 _ => b.length - (intOf v5).toNat)
  case atStart => exact ⟨0, 0, rfl, Lib.hid ⟨rfl, Nat.zero_le _⟩, bP, bS, hB3⟩
  case round =>
    clear hB3 bP bS p3 q3
    obtain ⟨i, q, rfl, hq, bP, bS, hB⟩ := hrel
    have p4 := cells4 bP.out
    have q4 := cells4 bS.out
    by_cases hlt : i < b.length
    · have hq0 : 0 ≤ q := by have := hq.out; omega
      have hq1 : q < (b.length : Int) := by have := hq.out; omega
      have hq3 : q < 1048576 := by omega
      obtain ⟨ad, eA, z0⟩ := Kd.at_bool (h1.below hB.out).r8 q hq0 hq1
      obtain ⟨ad2, eA2, z1⟩ := Kd.at_bool (h2.below hB.out).r8 q hq0 hq1
      cases eA
      cases eA2
      obtain ⟨x, hx⟩ : ∃ x, rdOf false b q = x := ⟨_, rfl⟩
      rw [hx] at z0 z1
      have t4 : (x != x) = false := by simp
      replace hlt := Lib.hid hlt
      clear hx
      go_wp2
      go_quiet (fail)
      go_wp2
      refine ⟨⟨i + 1, q + 1, rfl, Lib.hid ⟨by have := hq.out; omega, hlt.out⟩, Lib.hid (blk_drewN bP.out _), Lib.hid (blk_drewN bS.out _), Lib.hid (pw_below_drewN hB.out _)⟩, ?_⟩
      simp only [intOf]; have := hq.out; have := hlt.out; omega
    · have hge : ¬ q < (b.length : Int) := by have := hq.out; omega
      go_wp2
      go_ret
      exact ⟨rfl, hB.out⟩
end Go.Proofs.YtiipailmldbpbaaDoor.Q
end
