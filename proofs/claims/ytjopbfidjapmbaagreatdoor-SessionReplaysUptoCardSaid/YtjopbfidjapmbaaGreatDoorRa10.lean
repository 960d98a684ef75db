/- PART 10 OF A PROOF: Lean functions, and that the program computes them; written by hand and by a program. Not trusted: Lean checks it. -/
import Derived.Test.YtjopbfidjapmbaaGreatDoorRa3
import Derived.Test.YtjopbfidjapmbaaGreatDoorRa9
set_option linter.unusedVariables false
set_option linter.unusedSimpArgs false
section
namespace Go.Proofs.YtjopbfidjapmbaaGreatDoor.Q
open Go.RowKit Go.Proofs.YtjopbfidjapmbaaGreatDoorW.PrintWords Go.Proofs.YtjopbfidjapmbaaGreatDoorW.PrintLast Go.Proofs.YtjopbfidjapmbaaGreatDoorW.PrintMore
set_option linter.unusedVariables false
set_option linter.unusedSimpArgs false
open Go.Proofs.YtjopbfidjapmbaaGreatDoorS
theorem sbad_step {sc : List ByteArray} {ss : List Bool} {n i : Nat} (hi : i < n) : sbad sc ss (n - i) i = (((rdOf ByteArray.empty sc (i : Int)).toList.isEmpty && rdOf false ss (i : Int)) || sbad sc ss (n - (i + 1)) (i + 1)) := by
  obtain ⟨d, hd⟩ : ∃ d, n - i = d + 1 := ⟨n - i - 1, by omega⟩
  rw [hd, show n - (i + 1) = d by omega]
  rfl
theorem scheck_self {title : ByteArray} {H W : Int} {bl ri be : List Bool} {cells clues sc : List ByteArray} {ss : List Bool} {at_ : Int} (hp : pcheck title H W bl ri be cells clues = 0) (h1 : sc.length = cells.length) (h2 : ss.length = cells.length) : scheck title H W bl ri be cells clues sc ss at_ = if pcheck ⟨#[]⟩ H W bl ri be sc clues = 0 then (if sbad sc ss sc.length 0 then 33 else if gopen bl at_ then 0 else 230) else 33 := by
  unfold scheck
  rw [if_pos hp, if_pos ⟨h1, h2⟩]
theorem puzzle_of {A2 : Option Addr} {c2 : Nat} {bl : List Bool} {A3 : Option Addr} {c3 : Nat} {ri : List Bool} {A4 : Option Addr} {c4 : Nat} {be : List Bool} {A5 : Option Addr} {c5 : Nat} {cells : List ByteArray} {A6 : Option Addr} {c6 : Nat} {clues : List ByteArray} {A7 : Option Addr} {c7 : Nat} {sc : List ByteArray} {A8 : Option Addr} {c8 : Nat} {ss : List Bool} {w : World} (hP : PuzR A2 c2 bl A3 c3 ri A4 c4 be A5 c5 cells A6 c6 clues w) (hS : ShtR A7 c7 sc A8 c8 ss w) : PuzR A2 c2 bl A3 c3 ri A4 c4 be A7 c7 sc A6 c6 clues w := ⟨hP.r2, hP.k2, hP.r3, hP.k3, hP.r4, hP.k4, hS.r7, hS.k7, hP.r6, hP.k6⟩
set_option maxHeartbeats 8000000 in
set_option maxRecDepth 1000000 in
theorem check_calls {title : ByteArray} {H W : Int} {A2 : Option Addr} {c2 : Nat} {bl : List Bool} {A3 : Option Addr} {c3 : Nat} {ri : List Bool} {A4 : Option Addr} {c4 : Nat} {be : List Bool} {A5 : Option Addr} {c5 : Nat} {cells : List ByteArray} {A6 : Option Addr} {c6 : Nat} {clues : List ByteArray} {A7 : Option Addr} {c7 : Nat} {sc : List ByteArray} {A8 : Option Addr} {c8 : Nat} {ss : List Bool} {at_ : Int} {dn : Bool} {w : World} (hT : Tabs w) (hP : PuzR A2 c2 bl A3 c3 ri A4 c4 be A5 c5 cells A6 c6 clues w) (hS : ShtR A7 c7 sc A8 c8 ss w) (hz : PuzS title cells clues) (hzs : Small sc) :
    Calls Tryz.prog 63 #[.agg #[.string title, .int .i64 H, .int .i64 W, .slice A2 bl.length c2, .slice A3 ri.length c3, .slice A4 be.length c4, .slice A5 cells.length c5, .slice A6 clues.length c6], .agg #[.slice A7 sc.length c7, .slice A8 ss.length c8, .int .i64 at_, .bool dn]] w fun e w' => e = .returned (.int .i64 (scheck title H W bl ri be cells clues sc ss at_)) ∧ Below w.heap.size w w' := by
  have hx := box2 w (.cells #[.string title, .int .i64 H, .int .i64 W, .slice A2 bl.length c2, .slice A3 ri.length c3, .slice A4 be.length c4, .slice A5 cells.length c5, .slice A6 clues.length c6] 42) (.cells #[.slice A7 sc.length c7, .slice A8 ss.length c8, .int .i64 at_, .bool dn] 57)
  replace hx := Lib.hid hx
  have hu27 := Tryz.underlying42
  have hu24 := Tryz.underlying39
  have hu30 := Tryz.underlying57
  have tok1 : True := trivial
  by_cases hp : pcheck title H W bl ri be cells clues = 0
  · have tp : ((0 : Int) != 0) = false := rfl
    have hg := (pcheck_ok hp).1
    by_cases h1 : sc.length = cells.length
    · have t1 : ((sc.length : Int) != (cells.length : Int)) = false := by rw [h1]; simp
      have t1b : (sc.length != cells.length) = false := by rw [h1]; simp
      by_cases h2 : ss.length = cells.length
      · have t2 : ((ss.length : Int) != (cells.length : Int)) = false := by rw [h2]; simp
        have t2b : (ss.length != cells.length) = false := by rw [h2]; simp
        rw [scheck_self hp h1 h2]
        have hz2 := Lib.hid (PuzS.mk (title := ⟨#[]⟩) (by decide) hzs hz.c (by have := hz.l; omega) hz.m)
        replace h1 := Lib.hid h1
        replace h2 := Lib.hid h2
        replace hp := Lib.hid hp
        have tok2 : True := trivial
        by_cases hp2 : pcheck ⟨#[]⟩ H W bl ri be sc clues = 0
        · rw [if_pos hp2]
          obtain ⟨V, hV⟩ : ∃ V, (if sbad sc ss sc.length 0 then (33 : Int) else if gopen bl at_ then 0 else 230) = V := ⟨_, rfl⟩
          rw [hV]
          replace hV := Lib.hid hV
          replace hp2 := Lib.hid hp2
          have hop := grid_Open_eq H W bl ri be at_ (bl.length + 3) (Nat.le_refl _)
          rw [decide_eq_true hg, Bool.true_and] at hop
          clear hg
          go_enter Tryz.func63, Tryz.ntmps63
          go_wp2_with (first
            | (go_at_call 49; have tq := tok1; go_must (clear tq tok1; refine (page_calls (tabs_below hT hx.out.2.2) (hP.below hx.out.2.2) hz).mono ?_; rintro e w3 ⟨rfl, hb3⟩; rw [hp.out]; have hB3 := Lib.hid (below_step hx.out.2.2 hb3); have bP := Lib.hid (blk_below hx.out.1 hb3); have bS := Lib.hid (blk_below hx.out.2.1 hb3); have p3 := cells8 bP.out; have s3 := cells4 bS.out; clear hb3))
            | (go_at_call 49; have tq := tok2; go_must (clear tq tok2; refine (page_calls (tabs_below hT hB3.out) (puzzle_of (hP.below hB3.out) (hS.below hB3.out)) hz2.out).mono ?_; rintro e w5 ⟨rfl, hb5⟩; rw [hp2.out]; have hB5 := Lib.hid (below_step hB3.out hb5); have bP5 := Lib.hid (blk_below bP.out hb5); have bS5 := Lib.hid (blk_below bS.out hb5); have p5 := cells8 bP5.out; have s5 := cells4 bS5.out; clear hb5 p3 s3)))
          go_loopw [41] (fun v41 wr => ∃ (i : Nat) (q : Int), v41 = .int .i64 q ∧ Hid (q = i ∧ i ≤ sc.length) ∧ Hid (sbad sc ss sc.length 0 = sbad sc ss (sc.length - i) i) ∧ Hid (wr.heap[w.heap.size]? = some (.cells #[.string title, .int .i64 H, .int .i64 W, .slice A2 bl.length c2, .slice A3 ri.length c3, .slice A4 be.length c4, .slice A5 cells.length c5, .slice A6 clues.length c6] 42 (0, 0))) ∧ Hid (wr.heap[w.heap.size + 1]? = some (.cells #[.slice A7 sc.length c7, .slice A8 ss.length c8, .int .i64 at_, .bool dn] 57 (0, 0))) ∧ Hid (Below w.heap.size w wr)) (fun v41 _ => sc.length - (intOf v41).toNat)
          case atStart => exact ⟨0, 0, rfl, Lib.hid ⟨rfl, Nat.zero_le _⟩, Lib.hid rfl, bP5, bS5, hB5⟩
          case round =>
            clear hB3 bP bS t1 t1b t2 t2b tp hB5 bP5 bS5 p5 s5
            obtain ⟨i, q, rfl, hq, hrb, bP, bS, hB⟩ := hrel
            have p4 := cells8 bP.out
            have s4 := cells4 bS.out
            by_cases hlt : i < sc.length
            · have hq0 : 0 ≤ q := by have := hq.out; omega
              have hq1 : q < (sc.length : Int) := by have := hq.out; omega
              have hq4 : q < (ss.length : Int) := by have := h1.out; have := h2.out; omega
              have hq3 : q < 1048576 := by have := hz2.out.l; omega
              obtain ⟨ad, eA, zx⟩ := Kd.at_string (hS.below hB.out).r7 q hq0 hq1
              obtain ⟨ad3, eA3, zs⟩ := Kd.at_bool (hS.below hB.out).r8 q hq0 hq4
              cases eA
              cases eA3
              have hst := sbad_step (sc := sc) (ss := ss) hlt
              rw [← hq.out.1] at hst
              obtain ⟨xa, hxa⟩ : ∃ x, rdOf ByteArray.empty sc q = x := ⟨_, rfl⟩
              obtain ⟨sb, hsb⟩ : ∃ x, rdOf false ss q = x := ⟨_, rfl⟩
              rw [hxa, hsb] at hst
              rw [hxa] at zx
              rw [hsb] at zs
              clear hxa hsb
              by_cases hne : xa.toList = []
              · have te : xa.toList.isEmpty = true := by rw [hne]; rfl
                rw [te] at hst
                cases sb with
                | false =>
                  have hE : sbad sc ss sc.length 0 = sbad sc ss (sc.length - (i + 1)) (i + 1) := by rw [hrb.out, hst]; rfl
                  replace hE := Lib.hid hE
                  replace hlt := Lib.hid hlt
                  clear hst hrb
                  go_wp2
                  refine ⟨⟨i + 1, q + 1, rfl, Lib.hid ⟨by have := hq.out; omega, hlt.out⟩, hE, bP, bS, hB⟩, ?_⟩
                  simp only [intOf]; have := hq.out; have := hlt.out; omega
                | true =>
                  have hE : sbad sc ss sc.length 0 = true := by rw [hrb.out, hst]; rfl
                  replace hE := Lib.hid hE
                  clear hst hrb
                  go_wp2
                  go_ret
                  exact ⟨by rw [← hV.out, hE.out]; rfl, hB.out⟩
              · have te : xa.toList.isEmpty = false := toList_nil.2 hne
                rw [te] at hst
                have hE : sbad sc ss sc.length 0 = sbad sc ss (sc.length - (i + 1)) (i + 1) := by rw [hrb.out, hst]; rfl
                replace hE := Lib.hid hE
                replace hlt := Lib.hid hlt
                clear hst hrb
                go_wp2
                refine ⟨⟨i + 1, q + 1, rfl, Lib.hid ⟨by have := hq.out; omega, hlt.out⟩, hE, bP, bS, hB⟩, ?_⟩
                simp only [intOf]; have := hq.out; have := hlt.out; omega
            · have hge : ¬ q < (sc.length : Int) := by have := hq.out; omega
              have hE : sbad sc ss sc.length 0 = false := by rw [hrb.out, show sc.length - i = 0 by have := hq.out; omega]; rfl
              replace hE := Lib.hid hE
              clear hrb
              obtain ⟨q0, q1, q2, q3, q4, q5, q6, q7⟩ := p4
              cases ho : gopen bl at_ with
              | false =>
                have hv := hop
                rw [ho] at hv
                replace hv := Lib.hid hv
                replace ho := Lib.hid ho
                clear hop
                go_wp2_with (first
                  | (go_at_call 69; go_must (have hPx := hP.below hB.out; refine (grid_Open.calls _ _ _ _ _ _ _ _ _ _ _ _ _ _ _ hPx.r2 hPx.k2 hPx.r3 hPx.k3 hPx.r4 hPx.k4 hv.out).mono ?_; rintro e w6 ⟨rfl, hb6⟩)))
                go_ret
                exact ⟨by rw [← hV.out, hE.out, ho.out]; rfl, below_step hB.out hb6⟩
              | true =>
                have hv := hop
                rw [ho] at hv
                replace hv := Lib.hid hv
                replace ho := Lib.hid ho
                clear hop
                go_wp2_with (first
                  | (go_at_call 69; go_must (have hPx := hP.below hB.out; refine (grid_Open.calls _ _ _ _ _ _ _ _ _ _ _ _ _ _ _ hPx.r2 hPx.k2 hPx.r3 hPx.k3 hPx.r4 hPx.k4 hv.out).mono ?_; rintro e w6 ⟨rfl, hb6⟩)))
                go_ret
                exact ⟨by rw [← hV.out, hE.out, ho.out]; rfl, below_step hB.out hb6⟩
        · rw [if_neg hp2]
          obtain ⟨pe, hpe⟩ : ∃ x, pcheck ⟨#[]⟩ H W bl ri be sc clues = x := ⟨_, rfl⟩
          have tp2 : (pe != 0) = true := bne_iff_ne.2 (by rw [← hpe]; exact hp2)
          clear hp2 hg
          have hp2 := Lib.hid hpe
          clear hpe
          go_enter Tryz.func63, Tryz.ntmps63
          go_wp2_with (first
            | (go_at_call 49; have tq := tok1; go_must (clear tq tok1; refine (page_calls (tabs_below hT hx.out.2.2) (hP.below hx.out.2.2) hz).mono ?_; rintro e w3 ⟨rfl, hb3⟩; rw [hp.out]; have hB3 := Lib.hid (below_step hx.out.2.2 hb3); have bP := Lib.hid (blk_below hx.out.1 hb3); have bS := Lib.hid (blk_below hx.out.2.1 hb3); have p3 := cells8 bP.out; have s3 := cells4 bS.out; clear hb3))
            | (go_at_call 49; have tq := tok2; go_must (clear tq tok2; refine (page_calls (tabs_below hT hB3.out) (puzzle_of (hP.below hB3.out) (hS.below hB3.out)) hz2.out).mono ?_; rintro e w5 ⟨rfl, hb5⟩; rw [hp2.out]; have hB5 := Lib.hid (below_step hB3.out hb5); have bP5 := Lib.hid (blk_below bP.out hb5); have bS5 := Lib.hid (blk_below bS.out hb5); have p5 := cells8 bP5.out; have s5 := cells4 bS5.out; clear hb5 p3 s3)))
          go_ret
          exact ⟨rfl, hB5.out⟩
      · have t2 : ((ss.length : Int) != (cells.length : Int)) = true := bne_iff_ne.2 (by omega)
        have t2b : (ss.length != cells.length) = true := by simpa using h2
        have hv : scheck title H W bl ri be cells clues sc ss at_ = 51 := by unfold scheck; rw [if_pos hp, if_neg (fun h => h2 h.2)]
        rw [hv]
        clear hv hg h1 h2
        replace hp := Lib.hid hp
        go_enter Tryz.func63, Tryz.ntmps63
        go_wp2_with (first
          | (go_at_call 49; have tq := tok1; go_must (clear tq tok1; refine (page_calls (tabs_below hT hx.out.2.2) (hP.below hx.out.2.2) hz).mono ?_; rintro e w3 ⟨rfl, hb3⟩; rw [hp.out]; have hB3 := Lib.hid (below_step hx.out.2.2 hb3); have bP := Lib.hid (blk_below hx.out.1 hb3); have bS := Lib.hid (blk_below hx.out.2.1 hb3); have p3 := cells8 bP.out; have s3 := cells4 bS.out; clear hb3)))
        go_ret
        exact ⟨rfl, hB3.out⟩
    · have t1 : ((sc.length : Int) != (cells.length : Int)) = true := bne_iff_ne.2 (by omega)
      have t1b : (sc.length != cells.length) = true := by simpa using h1
      have hv : scheck title H W bl ri be cells clues sc ss at_ = 51 := by unfold scheck; rw [if_pos hp, if_neg (fun h => h1 h.1)]
      rw [hv]
      clear hv hg h1
      replace hp := Lib.hid hp
      go_enter Tryz.func63, Tryz.ntmps63
      go_wp2_with (first
        | (go_at_call 49; have tq := tok1; go_must (clear tq tok1; refine (page_calls (tabs_below hT hx.out.2.2) (hP.below hx.out.2.2) hz).mono ?_; rintro e w3 ⟨rfl, hb3⟩; rw [hp.out]; have hB3 := Lib.hid (below_step hx.out.2.2 hb3); have bP := Lib.hid (blk_below hx.out.1 hb3); have bS := Lib.hid (blk_below hx.out.2.1 hb3); have p3 := cells8 bP.out; have s3 := cells4 bS.out; clear hb3)))
      go_ret
      exact ⟨rfl, hB3.out⟩
  · have tp : (pcheck title H W bl ri be cells clues != 0) = true := bne_iff_ne.2 hp
    have hv : scheck title H W bl ri be cells clues sc ss at_ = pcheck title H W bl ri be cells clues := by unfold scheck; rw [if_neg hp]
    rw [hv]
    clear hv hp
    obtain ⟨pe, hpe⟩ : ∃ x, pcheck title H W bl ri be cells clues = x := ⟨_, rfl⟩
    rw [hpe] at tp ⊢
    replace hpe := Lib.hid hpe
    go_enter Tryz.func63, Tryz.ntmps63
    go_wp2_with (first
      | (go_at_call 49; have tq := tok1; go_must (clear tq tok1; refine (page_calls (tabs_below hT hx.out.2.2) (hP.below hx.out.2.2) hz).mono ?_; rintro e w3 ⟨rfl, hb3⟩; rw [hpe.out]; have hB3 := Lib.hid (below_step hx.out.2.2 hb3); have bP := Lib.hid (blk_below hx.out.1 hb3); have bS := Lib.hid (blk_below hx.out.2.1 hb3); have p3 := cells8 bP.out; have s3 := cells4 bS.out; clear hb3)))
    go_ret
    exact ⟨rfl, hB3.out⟩
end Go.Proofs.YtjopbfidjapmbaaGreatDoor.Q
end
section
namespace Go.Proofs.YtjopbfidjapmbaaGreatDoor.Q
open Go.RowKit Go.Proofs.YtjopbfidjapmbaaGreatDoorW.PrintWords Go.Proofs.YtjopbfidjapmbaaGreatDoorW.PrintLast Go.Proofs.YtjopbfidjapmbaaGreatDoorW.PrintMore
attribute [local go_sem] max2_int min2_int max_two min_two max_three min_three max_four min_four
set_option linter.unusedVariables false
set_option linter.unusedSimpArgs false
open Go.Proofs.YtjopbfidjapmbaaGreatDoorS
set_option maxHeartbeats 4000000 in
set_option maxRecDepth 100000 in
theorem sheet_write.calls (b : Nat) (base : Nat) (g0 g1 : Nat) (c0 c1 : Nat) (xs : List ByteArray) (bs : List Bool) (i : Int) (dn : Bool) (text : ByteArray) (w : World)
  (hbox : w.heap[b]? = some (.cells #[.slice (some ⟨g0, 0, none⟩) xs.length c0, .slice (some ⟨g1, 0, none⟩) bs.length c1, .int .i64 i, .bool dn] 57 (0, 0)))
  (hx : Kd.R Kd.string 9 w base (fun _ => True) (.slice (some ⟨g0, 0, none⟩) xs.length c0) xs) (hb : Kd.R Kd.bool 4 w base (fun _ => True) (.slice (some ⟨g1, 0, none⟩) bs.length c1) bs)
  (h0 : 0 ≤ i) (h1 : i < xs.length) (h2 : i < bs.length) :
  Calls Tryz.prog 67 #[.pointer (some ⟨b, 0, none⟩), .string text] w fun e w' => e = .returned (.tuple #[]) ∧ w'.heap[b]? = some (.cells #[.slice (some ⟨g0, 0, none⟩) xs.length c0, .slice (some ⟨g1, 0, none⟩) bs.length c1, .int .i64 i, .bool dn] 57 (0, 0)) ∧ Kd.R Kd.string 9 w' base (fun _ => True) (.slice (some ⟨g0, 0, none⟩) xs.length c0) (xs.set i.toNat text) ∧ Kd.R Kd.bool 4 w' base (fun _ => True) (.slice (some ⟨g1, 0, none⟩) bs.length c1) (bs.set i.toNat (!text.toList.isEmpty)) ∧ (∀ k, k ≠ g0 → k ≠ g1 → w'.heap[k]? = w.heap[k]?) ∧ (∀ B w0, Below B w0 w → B ≤ g0 → B ≤ g1 → Below B w0 w') := by
 have hu := Tryz.underlying57
 have z0 : w.cell? ⟨b, 0, none⟩ = some (.slice (some ⟨g0, 0, none⟩) xs.length c0) := (blk_cell hbox 0).trans rfl
 have z1 : w.cell? ⟨b, 1, none⟩ = some (.slice (some ⟨g1, 0, none⟩) bs.length c1) := (blk_cell hbox 1).trans rfl
 have z2 : w.cell? ⟨b, 2, none⟩ = some (.int .i64 i) := (blk_cell hbox 2).trans rfl
 obtain ⟨ad0, e0, x0⟩ := Kd.at_string (Kd.R_reads' hx).2.2 i h0 h1
 cases e0
 obtain ⟨ad1, e1, x1⟩ := Kd.at_bool (Kd.R_reads' hb).2.2 i h0 h2
 cases e1
 have d0 : decide (0 ≤ i) = true := decide_eq_true h0
 have d1 : decide (i < (xs.length : Int)) = true := decide_eq_true h1
 have d2 : decide (i < (bs.length : Int)) = true := decide_eq_true h2
 go_enter Tryz.func67, Tryz.ntmps67
 have n0 : g0 ≠ b := fun e => by have := Kd.R_ne hx hbox (by decide); simp [Value.ownBlock, e] at this
 have n1 : g1 ≠ b := fun e => by have := Kd.R_ne hb hbox (by decide); simp [Value.ownBlock, e] at this
 have hl0 : 0 < xs.length := by omega
 have hl1 : 0 < bs.length := by omega
 obtain ⟨cs0, hc0⟩ := Kd.R_typed hx g0 rfl
 obtain ⟨cs1, hc1⟩ := Kd.R_typed hb g1 rfl
 have hd0 : w.drew.heap[g0]? = some (.cells cs0 9 (0, 0)) := blk_drew hc0
 have f0 := blk_frozen hd0 i.toNat
 have x0' : w.cell? ⟨g0, i.toNat, none⟩ = some (.string (rdOf ByteArray.empty xs i)) := by have h := x0; rw [add_at, Nat.zero_add] at h; exact h
 have y0 : w.drew.cell? ⟨g0, i.toNat, none⟩ = some (.string (rdOf ByteArray.empty xs i)) := x0'
 go_wp2
 go_region_held (fun w' => w'.cell? ⟨b, 0, none⟩ = some (.slice (some ⟨g0, 0, none⟩) xs.length c0) ∧ w'.cell? ⟨b, 2, none⟩ = some (.int .i64 i)) (go_keep) (fail)
 have hx2 := Kd.R_drew (Kd.R_put hx i text).1
 have hb2 := Kd.R_drew (Kd.R_set hb hc0 (by decide) i.toNat (.string text))
 have hk2 : ∀ k, k ≠ g0 → (w.setCell ⟨g0, i.toNat, none⟩ (.string text)).drew.heap[k]? = w.heap[k]? := fun k hk => Below.heap_setCell w _ _ k hk
 have hB2 : ∀ B w0, Below B w0 w → B ≤ g0 → Below B w0 (w.setCell ⟨g0, i.toNat, none⟩ (.string text)).drew := fun B w0 h hg => below_drew (h.setCell hg _)
 generalize (w.setCell ⟨g0, i.toNat, none⟩ (.string text)).drew = w2 at hx2 hb2 hk2 hB2 ⊢
 clear z0 z1 z2 x0 x0' y0 f0 hd0 x1
 have hbox2 := (hk2 b (Ne.symm n0)).trans hbox
 have z1 : w2.cell? ⟨b, 1, none⟩ = some (.slice (some ⟨g1, 0, none⟩) bs.length c1) := (blk_cell hbox2 1).trans rfl
 have z2 : w2.cell? ⟨b, 2, none⟩ = some (.int .i64 i) := (blk_cell hbox2 2).trans rfl
 have hc12 := (hk2 g1 (blk_ne hc1 hc0 (by decide))).trans hc1
 have hd1 : w2.drew.heap[g1]? = some (.cells cs1 4 (0, 0)) := blk_drew hc12
 have f1 := blk_frozen hd1 i.toNat
 obtain ⟨ad1, e1, x1⟩ := Kd.at_bool (Kd.R_reads' hb2).2.2 i h0 h2
 cases e1
 have y1 : w2.drew.cell? ⟨g1, i.toNat, none⟩ = some (.bool (rdOf false bs i)) := by have h := x1; rw [add_at, Nat.zero_add] at h; exact h
 go_wp2
 go_region_held (fun w' => w'.cell? ⟨b, 1, none⟩ = some (.slice (some ⟨g1, 0, none⟩) bs.length c1) ∧ w'.cell? ⟨b, 2, none⟩ = some (.int .i64 i)) (go_keep) (fail)
 have hb3 := Kd.R_drew (Kd.R_put hb2 i (!text.toList.isEmpty)).1
 have hc02 : ∃ cs, w2.heap[g0]? = some (.cells cs 9 (0, 0)) := Kd.R_typed hx2 g0 rfl
 have hx3 := Kd.R_drew (Kd.R_set hx2 hc12 (by decide) i.toNat (.bool (!text.toList.isEmpty)))
 have hk3 : ∀ k, k ≠ g1 → (w2.setCell ⟨g1, i.toNat, none⟩ (.bool (!text.toList.isEmpty))).drew.heap[k]? = w2.heap[k]? := fun k hk => Below.heap_setCell w2 _ _ k hk
 have hB3 : ∀ B w0, Below B w0 w2 → B ≤ g1 → Below B w0 (w2.setCell ⟨g1, i.toNat, none⟩ (.bool (!text.toList.isEmpty))).drew := fun B w0 h hg => below_drew (h.setCell hg _)
 go_end0
 exact ⟨rfl, (hk3 b (Ne.symm n1)).trans hbox2, hx3, hb3, fun k h0_ h1_ => (hk3 k h1_).trans (hk2 k h0_), fun B w0 h h0_ h1_ => hB3 B w0 (hB2 B w0 h h0_) h1_⟩
end Go.Proofs.YtjopbfidjapmbaaGreatDoor.Q
end
section
namespace Go.Proofs.YtjopbfidjapmbaaGreatDoor.Q
open Go.RowKit Go.Proofs.YtjopbfidjapmbaaGreatDoorW.PrintWords Go.Proofs.YtjopbfidjapmbaaGreatDoorW.PrintLast Go.Proofs.YtjopbfidjapmbaaGreatDoorW.PrintMore
attribute [local go_sem] max2_int min2_int max_two min_two max_three min_three max_four min_four
set_option linter.unusedVariables false
set_option linter.unusedSimpArgs false
open Go.Proofs.YtjopbfidjapmbaaGreatDoorS
theorem slices_Clone_bool_bool_info : (Tryz.prog.info? 4).map (fun i => (i.zero, i.size, i.bytes)) = some (some (.bool false), 1, 1) := by kernel_rfl
def slices_Clone_bool_bool.f (l0 : List Bool) : Option (List Bool) := if l0.length < 140737488355328 then some l0 else none
set_option maxHeartbeats 8000000 in
set_option maxRecDepth 100000 in
theorem slices_Clone_bool_bool.calls (A0 : Option Addr) (c0 : Nat) (l0 : List Bool) (r : List Bool) (w : World) (hr0 : Kd.C Kd.bool w A0 l0.length l0) (hc0 : l0.length ≤ c0) (h : slices_Clone_bool_bool.f l0 = some r) :
  Calls Tryz.prog 39 #[.slice A0 l0.length c0] w fun e w' => ∃ v0_ : Value, e = .returned (v0_) ∧ Kd.R Kd.bool 4 w' w.heap.size (fun _ => True) v0_ r ∧ Below w.heap.size w w' := by
 obtain ⟨hl, rfl⟩ := guard_some h
 clear h
 cases A0 with
 | none =>
  have h0 : l0 = [] := by
   cases l0 with
   | nil => rfl
   | cons x l => obtain ⟨ad, e, _⟩ := hr0.2.2 (by simp); cases e
  subst h0
  have hnil := fun (w : World) (e : TypeId) (a : Option Addr) (l c : Nat) (h : Tryz.prog.underlying 37 = some (.slice e)) => Lib.run_eql_slice_nil w 37 e a l c 0 0 h
  replace hnil := fun (w : World) (a : Option Addr) (l c : Nat) => hnil w _ a l c Tryz.underlying37
  go_enter Tryz.func39, Tryz.ntmps39
  go_wp2
  go_ret
  exact ⟨_, rfl, Kd.R_nil _ _ _ _ _, Below.refl _ _⟩
 | some ad =>
  have hnil := fun (w : World) (e : TypeId) (a : Option Addr) (l c : Nat) (h : Tryz.prog.underlying 37 = some (.slice e)) => Lib.run_eql_slice_nil w 37 e a l c 0 0 h
  replace hnil := fun (w : World) (a : Option Addr) (l c : Nat) => hnil w _ a l c Tryz.underlying37
  have HR0 := Aside0.mk hr0
  clear hr0
  have HB := Aside0.mk (Below.refl w.heap.size w)
  obtain ⟨y, hy⟩ : ∃ y_ : List Bool, y_ = (([] : List Bool)) := ⟨_, rfl⟩
  have Ny := Aside0.mk hy
  have hyl : y.length + l0.length < 140737488355328 := by rw [hy]; simpa using hl
  have HL := Aside0.mk hyl
  clear hyl hy hl
  go_enter Tryz.func39, Tryz.ntmps39
  go_wp2_with (first | ((with_reducible refine gate_dst (N := 5) rfl ?_); refine Kd.R_lit Kd.bool _ 4 ?hg (N := 5) ?hd (xs := ([] : List Bool)) (inner := []) (ok := fun _ => True) (okp := fun _ => True) ?hr ?hp (fun _ hk => hk) trivial (Below.refl _ _) (Nat.le_refl _) (by simp) ?_; (case hd => rfl); (case hg => rfl); (case hr => first | (go_simp; done) | (go_simp; rfl)); (case hp => exact (Reps.none _ _)); intro v1 w3 ho4 hb hg_ hnew_; clear hg_ hnew_; rw [← Ny.out] at ho4; have HO := Aside0.mk ho4; have HB2 := Aside0.mk hb; clear hb ho4) | ((with_reducible refine gate_builtin (b := .append) (xs := #[.tmp 5, .tmp 6]) rfl ?_); at_builtin; refine Kd.R_append_rows Kd.bool (w0 := w) w.heap.size rfl (.tmp 5) (.tmp 6) 37 4 (.bool false) 1 rfl Tryz.underlying37 slices_Clone_bool_bool_info rfl (by decide) (by omega) v1 y l0 _ _ _ (fun _ => True) (fun _ => False) rfl rfl ?aO ?aR (fun _ _ h => h) (fun _ h => h.elim) ?aF ?aB ?aS ?aL ?_; (case aR => exact Kd.C_below HR0.out HB2.out); (case aB => exact HB2.out); (case aF => exact (fun _ _ => trivial)); (case aO => exact HO.out); (case aS => exact HB2.out.size); (case aL => have := HL.out; omega); intro v2 w5 ho hb hg hat; have HB3 := Aside0.mk hb; have HO3 := Aside0.mk ho; clear hb hg hat ho))
  go_ret
  refine ⟨_, rfl, ?_, HB3.out⟩
  have := HO3.out
  rw [Ny.out, List.nil_append] at this
  exact this
end Go.Proofs.YtjopbfidjapmbaaGreatDoor.Q
end
section
namespace Go.Proofs.YtjopbfidjapmbaaGreatDoor.Q
open Go.RowKit Go.Proofs.YtjopbfidjapmbaaGreatDoorW.PrintWords Go.Proofs.YtjopbfidjapmbaaGreatDoorW.PrintLast Go.Proofs.YtjopbfidjapmbaaGreatDoorW.PrintMore
attribute [local go_sem] max2_int min2_int max_two min_two max_three min_three max_four min_four
set_option linter.unusedVariables false
set_option linter.unusedSimpArgs false
def sheet_copied.f (l0_0 : List ByteArray) (l0_1 : List Bool) (a0_2 : Int) (a0_3 : Bool) : Option (List ByteArray × List Bool × Int × Bool) := (slices_Clone_string_string.f l0_0).bind fun t159 => ((slices_Clone_bool_bool.f l0_1).bind fun t162 => (some (t159, t162, a0_2, a0_3)))
def sheet_copied.T1 : Bool × List (List Nat × List Nat) := (true, [([], []), ([0], [0]), ([1], [1]), ([], []), ([3], [3]), ([4, 2], [4]), ([0, 1, 2, 3, 4], []), ([6, 2, 5, 0, 1, 2, 3, 4], [2, 6]), ([0, 1, 2, 3, 4, 5, 6, 7], []), ([8, 5, 7, 0, 1, 2, 3, 4, 5, 6, 7], [5, 8])])
def sheet_copied.B1 : List Nat := [0, 1, 3, 0, 8, 31, 31, 127, 255, 511]
theorem sheet_copied.tab1 : rtab .any (opsOf Tryz.f64 1) = sheet_copied.T1 := by kernel_rfl
theorem sheet_copied.bits1 : waitsOk sheet_copied.T1.2 sheet_copied.B1 = true := by kernel_rfl
set_option maxHeartbeats 8000000 in
set_option maxRecDepth 100000 in
theorem sheet_copied.calls (A0_0 : Option Addr) (c0_0 : Nat) (l0_0 : List ByteArray) (A0_1 : Option Addr) (c0_1 : Nat) (l0_1 : List Bool) (a0_2 : Int) (a0_3 : Bool) (r1 : List ByteArray) (r2 : List Bool) (r3 : Int) (r4 : Bool) (w : World) (hr0_0 : Kd.C Kd.string w A0_0 l0_0.length l0_0) (hc0_0 : l0_0.length ≤ c0_0) (hr0_1 : Kd.C Kd.bool w A0_1 l0_1.length l0_1) (hc0_1 : l0_1.length ≤ c0_1) (h : sheet_copied.f l0_0 l0_1 a0_2 a0_3 = some (r1, r2, r3, r4)) :
  Calls Tryz.prog 64 #[.agg #[.slice A0_0 l0_0.length c0_0, .slice A0_1 l0_1.length c0_1, .int .i64 a0_2, .bool a0_3]] w fun e w' => ∃ v0_ v1_ : Value, e = .returned (.agg #[v0_, v1_, .int .i64 r3, .bool r4]) ∧ Kd.R Kd.string 9 w' w.heap.size (fun _ => True) v0_ r1 ∧ Kd.R Kd.bool 4 w' w.heap.size (fun _ => True) v1_ r2 ∧ Below w.heap.size w w' := by
 have hu57 := Tryz.underlying57
 have HR0_0 := Aside0.mk hr0_0
 have HC0_0 := Aside0.mk hc0_0
 clear hr0_0 hc0_0
 have HR0_1 := Aside0.mk hr0_1
 have HC0_1 := Aside0.mk hc0_1
 clear hr0_1 hc0_1
 have HB := Aside0.mk (Below.refl w.heap.size w)
 have H : ((slices_Clone_string_string.f l0_0).bind fun t159 => ((slices_Clone_bool_bool.f l0_1).bind fun t162 => (some (t159, t162, a0_2, a0_3)))) = some (r1, r2, r3, r4) := h
 clear h
 replace H := Option.bind_eq_some_iff.mp H
 obtain ⟨t159, A20, H⟩ := H
 replace H : ((slices_Clone_bool_bool.f l0_1).bind fun t162 => (some (t159, t162, a0_2, a0_3))) = some (r1, r2, r3, r4) := H
 have A2 := Aside0.mk A20
 clear A20
 replace H := Option.bind_eq_some_iff.mp H
 obtain ⟨t162, A30, H⟩ := H
 replace H : (some (t159, t162, a0_2, a0_3)) = some (r1, r2, r3, r4) := H
 have A3 := Aside0.mk A30
 clear A30
 simp only [Option.some.injEq, Prod.mk.injEq] at H
 obtain ⟨rfl, rfl, rfl, rfl⟩ := H
 go_enter Tryz.func64, Tryz.ntmps64
 try go_wp2_with (first | ((with_reducible refine gate_dst (N := 1) rfl ?_); refine box_event ?hg (N := 1) ?hd (cs := #[.slice A0_0 l0_0.length c0_0, .slice A0_1 l0_1.length c0_1, .int .i64 a0_2, .bool a0_3]) (t := 57) ?hr ?_; (case hd => rfl); (case hg => rfl); (case hr => first | (go_simp; done) | (go_simp; rfl)); intro gb157 hg w4 hbox hb; have n0_ := Aside0.mk (below_step (by repeat (first | (with_reducible first | exact HB.out | apply below_alloc | apply pw_below_drewN | apply below_drew1) | exact HB.out)) hb); have n1_ := Aside0.mk (hbox); have n2_ := Aside0.mk ((by rw [hg]; exact (below_size (by repeat (first | (with_reducible first | exact HB.out | apply below_alloc | apply pw_below_drewN | apply below_drew1) | exact HB.out))) : w.heap.size ≤ gb157)); have n3_ := Aside0.mk ((by rw [hg]; exact (below_size (by repeat (first | (with_reducible first | exact HB.out | apply below_alloc | apply pw_below_drewN | apply below_drew1) | exact HB.out))) : w.heap.size ≤ gb157)); clear HB; have HB := n0_; have BK157 := n1_; have GW157 := n2_; have GE157 := n3_; clear n0_ n1_ n2_ n3_; clear hb hbox hg) | ((with_reducible refine gate_dst (N := 2) rfl ?_); refine box_event ?hg (N := 2) ?hd (cs := #[.slice none 0 0, .slice none 0 0, .int .i64 0, .bool false]) (t := 57) ?hr ?_; (case hd => rfl); (case hg => rfl); (case hr => first | (go_simp; done) | (go_simp; rfl)); intro gb158 hg w5 hbox hb; have n0_ := Aside0.mk (blk_below (g := gb157) (o := .cells #[.slice A0_0 l0_0.length c0_0, .slice A0_1 l0_1.length c0_1, .int .i64 a0_2, .bool a0_3] 57 (0, 0)) (by (with_reducible repeat (first | refine blk_drewN ?_ _ | refine blk_drew ?_ | refine blk_alloc ?_ _)); exact BK157.out) hb); have n1_ := Aside0.mk (below_step (by repeat (first | (with_reducible first | exact HB.out | apply below_alloc | apply pw_below_drewN | apply below_drew1 | refine below_set ?_ GE157.out) | exact HB.out)) hb); have n2_ := Aside0.mk (hbox); have n3_ := Aside0.mk ((by rw [hg]; exact (below_size (by repeat (first | (with_reducible first | exact HB.out | apply below_alloc | apply pw_below_drewN | apply below_drew1 | refine below_set ?_ GE157.out) | exact HB.out))) : w.heap.size ≤ gb158)); have n4_ := Aside0.mk ((by rw [hg]; exact (below_size (by repeat (first | (with_reducible first | exact HB.out | apply below_alloc | apply pw_below_drewN | apply below_drew1 | refine below_set ?_ GE157.out) | exact HB.out))) : w.heap.size ≤ gb158)); have n5_ := Aside0.mk ((by rw [hg]; exact Nat.ne_of_lt (blk_lt (g := gb157) (o := .cells #[.slice A0_0 l0_0.length c0_0, .slice A0_1 l0_1.length c0_1, .int .i64 a0_2, .bool a0_3] 57 (0, 0)) (by (with_reducible repeat (first | refine blk_drewN ?_ _ | refine blk_drew ?_ | refine blk_alloc ?_ _)); exact BK157.out)) : gb157 ≠ gb158)); have n6_ := Aside0.mk ((by rw [hg]; exact Nat.ne_of_gt (blk_lt (g := gb157) (o := .cells #[.slice A0_0 l0_0.length c0_0, .slice A0_1 l0_1.length c0_1, .int .i64 a0_2, .bool a0_3] 57 (0, 0)) (by (with_reducible repeat (first | refine blk_drewN ?_ _ | refine blk_drew ?_ | refine blk_alloc ?_ _)); exact BK157.out)) : gb158 ≠ gb157)); clear BK157; clear HB; have BK157 := n0_; have HB := n1_; have BK158 := n2_; have GW158 := n3_; have GE158 := n4_; have NB157_158 := n5_; have NB158_157 := n6_; clear n0_ n1_ n2_ n3_ n4_ n5_ n6_; clear hb hbox hg))
 have n0_ := Aside0.mk (blk_drew BK157.out)
 have n1_ := Aside0.mk (blk_drew BK158.out)
 have n2_ := Aside0.mk (below_drew1 HB.out)
 clear BK157
 clear BK158
 clear HB
 have BK157 := n0_
 have BK158 := n1_
 have HB := n2_
 clear n0_ n1_ n2_
 refine start_ (n := 10) (S := fun w' => w'.cell? ⟨gb157, 0, none⟩ = some (.slice A0_0 l0_0.length c0_0) ∧ w'.cell? ⟨gb157, 1, none⟩ = some (.slice A0_1 l0_1.length c0_1) ∧ w'.cell? ⟨gb157, 2, none⟩ = some (.int .i64 a0_2) ∧ w'.cell? ⟨gb157, 3, none⟩ = some (.bool a0_3)) (ds := [7, 9]) #[false, false, false, false, false, false, false, false, false, false] (by kernel_rfl) rfl rfl ⟨(blk_cell BK157.out 0).trans rfl, (blk_cell BK157.out 1).trans rfl, (blk_cell BK157.out 2).trans rfl, (blk_cell BK157.out 3).trans rfl⟩ (fun hHeld => ?_); refine with_tabW sheet_copied.tab1 sheet_copied.bits1 (fun HT_ HW_ => ?_)
 generalize w5.drew = w6 at BK157 BK158 HB hHeld ⊢
 refine pure_ (i := 0) (N := some 3) (v := ?_) (a' := ?_) #[true, false, false, false, false, false, false, false, false, false] rfl rfl (any_of HT_.out (by kernel_rfl)) (fun _ _ _ h => h) (Or.inl ⟨by rfl, ?_⟩) ?_ ?_
 rotate_left
 ·intro w'
  go_simp
  with_reducible rfl
 rotate_left
 ·simp only [Act.put, List.setIfInBounds_toArray, List.set_cons_zero, List.set_cons_succ, i64_w, i32_w]
  rfl
 refine pure_ (i := 3) (N := some 6) (v := ?_) (a' := ?_) #[true, false, false, true, false, false, false, false, false, false] rfl rfl (any_of HT_.out (by kernel_rfl)) (fun _ _ _ h => h) (Or.inl ⟨by rfl, ?_⟩) ?_ ?_
 rotate_left
 ·intro w'
  go_simp
  with_reducible rfl
 rotate_left
 ·simp only [Act.put, List.setIfInBounds_toArray, List.set_cons_zero, List.set_cons_succ, i64_w, i32_w]
  rfl
 refine take_ (i := 1) (N := some 4) (v := ?_) (a' := ?_) #[true, true, false, true, false, false, false, false, false, false] rfl rfl (take_ofW HT_.out HW_.out (by kernel_rfl)) (fun _ _ _ h => h) (Or.inl ⟨by rfl, ?_⟩) hHeld ?_ ?_
 rotate_left
 ·rintro w' ⟨s0, s1, s2, s3⟩
  go_simp
  with_reducible rfl
 rotate_left
 ·simp only [Act.put, List.setIfInBounds_toArray, List.set_cons_zero, List.set_cons_succ, i64_w, i32_w]
  rfl
 refine take_ (i := 4) (N := some 7) (v := ?_) (a' := ?_) #[true, true, false, true, true, false, false, false, false, false] rfl rfl (take_ofW HT_.out HW_.out (by kernel_rfl)) (fun _ _ _ h => h) (Or.inl ⟨by rfl, ?_⟩) hHeld ?_ ?_
 rotate_left
 ·rintro w' ⟨s0, s1, s2, s3⟩
  go_simp
  with_reducible rfl
 rotate_left
 ·simp only [Act.put, List.setIfInBounds_toArray, List.set_cons_zero, List.set_cons_succ, i64_w, i32_w]
  rfl
 refine one_ (i := 2) (N := some 5) #[true, true, true, true, true, false, false, false, false, false] rfl rfl (one_of HT_.out (by kernel_rfl)) (by decide) (fun K hK => ?_)
 refine goes_ Tryz.func38 (by kernel_rfl) rfl #[.slice A0_0 l0_0.length c0_0] (by rfl) rfl rfl (by (try simp only [List.map_toArray, List.map_cons, List.map_nil]); first | done | rfl | (simp only [List.length_drop, List.length_take]; rfl)) ?_
 with_reducible refine (slices_Clone_string_string.calls _ _ l0_0 t159 _ ?side1 ?side2 A2.out).mono ?_
 (case side1 => repeat (first | exact (Kd.C_below HR0_0.out HB.out) | (with_reducible refine Kd.C_alloc ?_ _) | (with_reducible refine Kd.C_drewN ?_ _) | (with_reducible refine Kd.C_drew ?_)))
 (case side2 => exact HC0_0.out)
 rintro e w7 ⟨v160, rfl, ho0, hb⟩
 refine ⟨_, rfl, ?_⟩
 have n0_ := Aside0.mk (Kd.R_lower ho0 (below_size (by repeat (first | (with_reducible first | exact HB.out | apply below_alloc | apply pw_below_drewN | apply below_drew1 | refine below_set ?_ GE157.out | refine below_set ?_ GE158.out) | exact HB.out))))
 have n1_ := Aside0.mk (blk_below (g := gb157) (o := .cells #[.slice A0_0 l0_0.length c0_0, .slice A0_1 l0_1.length c0_1, .int .i64 a0_2, .bool a0_3] 57 (0, 0)) (by (with_reducible repeat (first | refine blk_drewN ?_ _ | refine blk_drew ?_ | refine blk_alloc ?_ _)); exact BK157.out) hb)
 have n2_ := Aside0.mk (blk_below (g := gb158) (o := .cells #[.slice none 0 0, .slice none 0 0, .int .i64 0, .bool false] 57 (0, 0)) (by (with_reducible repeat (first | refine blk_drewN ?_ _ | refine blk_drew ?_ | refine blk_alloc ?_ _)); exact BK158.out) hb)
 have n3_ := Aside0.mk (below_step (by repeat (first | (with_reducible first | exact HB.out | apply below_alloc | apply pw_below_drewN | apply below_drew1 | refine below_set ?_ GE157.out | refine below_set ?_ GE158.out) | exact HB.out)) hb)
 clear BK157
 clear BK158
 clear HB
 have HO161 := n0_
 have BK157 := n1_
 have BK158 := n2_
 have HB := n3_
 clear n0_ n1_ n2_ n3_
 (try clear hb)
 (try clear hb2)
 (try clear hk)
 (try clear hi)
 (try clear ho0)
 refine hK.out _ _ ⟨(blk_cell BK157.out 0).trans rfl, (blk_cell BK157.out 1).trans rfl, (blk_cell BK157.out 2).trans rfl, (blk_cell BK157.out 3).trans rfl⟩ (fun hHeld => ?_)
 clear hK K
 refine norm_ (a' := ?_) ?_ ?_
 rotate_left
 ·show Act.put _ (some 5) _ = _
  simp only [Act.put, List.setIfInBounds_toArray, List.set_cons_zero, List.set_cons_succ, i64_w, i32_w]
  rfl
 refine pure_ (i := 6) (N := some 9) (v := ?_) (a' := ?_) #[true, true, true, true, true, false, true, false, false, false] rfl rfl (any_of HT_.out (by kernel_rfl)) (fun _ _ _ h => h) (Or.inl ⟨by rfl, ?_⟩) ?_ ?_
 rotate_left
 ·intro w'
  go_simp
  with_reducible rfl
 rotate_left
 ·simp only [Act.put, List.setIfInBounds_toArray, List.set_cons_zero, List.set_cons_succ, i64_w, i32_w]
  rfl
 refine one_ (i := 5) (N := some 8) #[true, true, true, true, true, true, true, false, false, false] rfl rfl (one_of HT_.out (by kernel_rfl)) (by decide) (fun K hK => ?_)
 refine goes_ Tryz.func39 (by kernel_rfl) rfl #[.slice A0_1 l0_1.length c0_1] (by rfl) rfl rfl (by (try simp only [List.map_toArray, List.map_cons, List.map_nil]); first | done | rfl | (simp only [List.length_drop, List.length_take]; rfl)) ?_
 with_reducible refine (slices_Clone_bool_bool.calls _ _ l0_1 t162 _ ?side1 ?side2 A3.out).mono ?_
 (case side1 => repeat (first | exact (Kd.C_below HR0_1.out HB.out) | (with_reducible refine Kd.C_alloc ?_ _) | (with_reducible refine Kd.C_drewN ?_ _) | (with_reducible refine Kd.C_drew ?_)))
 (case side2 => exact HC0_1.out)
 rintro e w8 ⟨v163, rfl, ho0, hb⟩
 refine ⟨_, rfl, ?_⟩
 have n0_ := Aside0.mk (Kd.R_below (by (with_reducible repeat (first | apply Kd.R_alloc | apply Kd.R_drewN | apply Kd.R_drew)); exact HO161.out) hb)
 have n1_ := Aside0.mk (Kd.R_lower ho0 (below_size (by repeat (first | (with_reducible first | exact HB.out | apply below_alloc | apply pw_below_drewN | apply below_drew1 | refine below_set ?_ GE157.out | refine below_set ?_ GE158.out) | exact HB.out))))
 have n2_ := Aside0.mk (blk_below (g := gb157) (o := .cells #[.slice A0_0 l0_0.length c0_0, .slice A0_1 l0_1.length c0_1, .int .i64 a0_2, .bool a0_3] 57 (0, 0)) (by (with_reducible repeat (first | refine blk_drewN ?_ _ | refine blk_drew ?_ | refine blk_alloc ?_ _)); exact BK157.out) hb)
 have n3_ := Aside0.mk (blk_below (g := gb158) (o := .cells #[.slice none 0 0, .slice none 0 0, .int .i64 0, .bool false] 57 (0, 0)) (by (with_reducible repeat (first | refine blk_drewN ?_ _ | refine blk_drew ?_ | refine blk_alloc ?_ _)); exact BK158.out) hb)
 have n4_ := Aside0.mk (below_step (by repeat (first | (with_reducible first | exact HB.out | apply below_alloc | apply pw_below_drewN | apply below_drew1 | refine below_set ?_ GE157.out | refine below_set ?_ GE158.out) | exact HB.out)) hb)
 clear HO161
 clear BK157
 clear BK158
 clear HB
 have HO161 := n0_
 have HO164 := n1_
 have BK157 := n2_
 have BK158 := n3_
 have HB := n4_
 clear n0_ n1_ n2_ n3_ n4_
 (try clear hb)
 (try clear hb2)
 (try clear hk)
 (try clear hi)
 (try clear ho0)
 obtain ⟨Ao9, co9, eo9⟩ := Kd.R_slice HO161.out
 (first | subst eo9 | (injection eo9 with f1_ f2_ f3_; have f4_ := f1_.symm; have f5_ := f3_.symm; clear f1_ f2_ f3_; subst f4_; subst f5_))
 obtain ⟨Ao11, co11, eo11⟩ := Kd.R_slice HO164.out
 (first | subst eo11 | (injection eo11 with f1_ f2_ f3_; have f4_ := f1_.symm; have f5_ := f3_.symm; clear f1_ f2_ f3_; subst f4_; subst f5_))
 refine hK.out _ _ ⟨(blk_cell BK157.out 0).trans rfl, (blk_cell BK157.out 1).trans rfl, (blk_cell BK157.out 2).trans rfl, (blk_cell BK157.out 3).trans rfl⟩ (fun hHeld => ?_)
 clear hK K
 refine norm_ (a' := ?_) ?_ ?_
 rotate_left
 ·show Act.put _ (some 8) _ = _
  simp only [Act.put, List.setIfInBounds_toArray, List.set_cons_zero, List.set_cons_succ, i64_w, i32_w]
  rfl
 refine last_ (i := 7) (N := none) #[true, true, true, true, true, true, true, true, false, false] rfl rfl (one_of HT_.out (by kernel_rfl)) (by decide) (fun K hK => ?_)
 have hs10 : w8.cell? ⟨gb157, 0, none⟩ = some (.slice A0_0 l0_0.length c0_0) := (blk_cell BK157.out 0).trans rfl
 have hfs10 := blk_frozen BK157.out 0
 have hns10_1 := NB158_157.out
 have hms10_1 := NB157_158.out
 refine skip_ (w1 := ?_) (by rfl) rfl ?_ ?_
 rotate_left
 ·go_simp
  rfl
 refine hK.out _ _ ?_
 clear hK K
 refine pure_ (i := 8) (N := some 10) (v := ?_) (a' := ?_) #[true, true, true, true, true, true, true, true, true, false] rfl rfl (any_of HT_.out (by kernel_rfl)) (fun _ _ _ h => h) (Or.inl ⟨by rfl, ?_⟩) ?_ ?_
 rotate_left
 ·intro w'
  go_simp
  with_reducible rfl
 rotate_left
 ·simp only [Act.put, List.setIfInBounds_toArray, List.set_cons_zero, List.set_cons_succ, i64_w, i32_w]
  rfl
 refine last_ (i := 9) (N := none) #[true, true, true, true, true, true, true, true, true, true] rfl rfl (one_of HT_.out (by kernel_rfl)) (by decide) (fun K hK => ?_)
 have hs12 : w8.cell? ⟨gb157, 1, none⟩ = some (.slice A0_1 l0_1.length c0_1) := (blk_cell BK157.out 1).trans rfl
 have hfs12 := blk_frozen BK157.out 1
 have hns12_1 := NB158_157.out
 have hms12_1 := NB157_158.out
 refine skip_ (w1 := ?_) (by rfl) rfl ?_ ?_
 rotate_left
 ·go_simp
  rfl
 refine hK.out _ _ ?_
 clear hK K
 refine done_ (done_of HT_.out (by kernel_rfl)) ?_
 have hnb13 := NB157_158.out
 have hnc13 := NB158_157.out
 have hcz14_0 : w8.cell? ⟨gb157, 0, none⟩ = some (.slice A0_0 l0_0.length c0_0) := (blk_cell BK157.out 0).trans rfl
 have hcz14_1 : w8.cell? ⟨gb157, 1, none⟩ = some (.slice A0_1 l0_1.length c0_1) := (blk_cell BK157.out 1).trans rfl
 have hcz14_2 : w8.cell? ⟨gb157, 2, none⟩ = some (.int .i64 a0_2) := (blk_cell BK157.out 2).trans rfl
 have hcz14_3 : w8.cell? ⟨gb157, 3, none⟩ = some (.bool a0_3) := (blk_cell BK157.out 3).trans rfl
 have hfz14_0 := blk_frozen BK157.out 0
 have hfz14_1 := blk_frozen BK157.out 1
 have hfz14_2 := blk_frozen BK157.out 2
 have hfz14_3 := blk_frozen BK157.out 3
 have hcz15_0 : w8.cell? ⟨gb158, 0, none⟩ = some (.slice none 0 0) := (blk_cell BK158.out 0).trans rfl
 have hcz15_1 : w8.cell? ⟨gb158, 1, none⟩ = some (.slice none 0 0) := (blk_cell BK158.out 1).trans rfl
 have hcz15_2 : w8.cell? ⟨gb158, 2, none⟩ = some (.int .i64 0) := (blk_cell BK158.out 2).trans rfl
 have hcz15_3 : w8.cell? ⟨gb158, 3, none⟩ = some (.bool false) := (blk_cell BK158.out 3).trans rfl
 have hfz15_0 := blk_frozen BK158.out 0
 have hfz15_1 := blk_frozen BK158.out 1
 have hfz15_2 := blk_frozen BK158.out 2
 have hfz15_3 := blk_frozen BK158.out 3
 try go_wp2
 refine bodyPost_ret (results_cell_row rfl _ _ gb158 57 #[.slice Ao9 t159.length co9, .slice Ao11 t162.length co11, .int .i64 a0_2, .bool a0_3] (0, 0) _ rfl (by (with_reducible repeat (first | refine blk_drewN ?_ _ | refine blk_drew ?_ | refine blk_alloc ?_ _)); refine blk_put (cs := #[.slice Ao9 t159.length co9, .slice Ao11 t162.length co11, .int .i64 a0_2, .bool false]) ?_ 3 _ rfl; (with_reducible repeat (first | refine blk_drewN ?_ _ | refine blk_drew ?_ | refine blk_alloc ?_ _)); refine blk_put (cs := #[.slice Ao9 t159.length co9, .slice Ao11 t162.length co11, .int .i64 0, .bool false]) ?_ 2 _ rfl; (with_reducible repeat (first | refine blk_drewN ?_ _ | refine blk_drew ?_ | refine blk_alloc ?_ _)); refine blk_put (cs := #[.slice Ao9 t159.length co9, .slice none 0 0, .int .i64 0, .bool false]) ?_ 1 _ rfl; (with_reducible repeat (first | refine blk_drewN ?_ _ | refine blk_drew ?_ | refine blk_alloc ?_ _)); refine blk_put (cs := #[.slice none 0 0, .slice none 0 0, .int .i64 0, .bool false]) ?_ 0 _ rfl; (with_reducible repeat (first | refine blk_drewN ?_ _ | refine blk_drew ?_ | refine blk_alloc ?_ _)); refine blk_far ?_ NB158_157.out _; (with_reducible repeat (first | refine blk_drewN ?_ _ | refine blk_drew ?_ | refine blk_alloc ?_ _)); refine blk_far ?_ NB158_157.out _; (with_reducible repeat (first | refine blk_drewN ?_ _ | refine blk_drew ?_ | refine blk_alloc ?_ _)); exact BK158.out) Tryz.underlying57 rfl (by kernel_rfl)) rfl ?_
 exact ⟨_, _, by first | rfl | (simp [errW_none, errW_some] <;> rfl) | (simp [*, errW_none, errW_some] <;> rfl) | (exfalso; contradiction), by (with_reducible repeat (first | apply Kd.R_alloc | apply Kd.R_drewN | apply Kd.R_drew)); exact Kd.R_mono (Kd.R_far (p := ⟨gb158, 3, none⟩) (Kd.R_far (p := ⟨gb158, 2, none⟩) (Kd.R_far (p := ⟨gb158, 1, none⟩) (Kd.R_far (p := ⟨gb158, 0, none⟩) (Kd.R_far (p := ⟨gb157, 1, none⟩) (Kd.R_far (p := ⟨gb157, 0, none⟩) (Kd.R_types (Kd.R_types HO161.out BK157.out (by decide)) BK158.out (by decide)) (fun _ hk => hk.1.2) (.slice Ao9 t159.length co9)) (fun _ hk => hk.1.2) (.slice Ao11 t162.length co11)) (fun _ hk => hk.2) (.slice Ao9 t159.length co9)) (fun _ hk => hk.2) (.slice Ao11 t162.length co11)) (fun _ hk => hk.2) (.int .i64 a0_2)) (fun _ hk => hk.2) (.bool a0_3)) (fun _ hk => trivial), by (with_reducible repeat (first | apply Kd.R_alloc | apply Kd.R_drewN | apply Kd.R_drew)); exact Kd.R_mono (Kd.R_far (p := ⟨gb158, 3, none⟩) (Kd.R_far (p := ⟨gb158, 2, none⟩) (Kd.R_far (p := ⟨gb158, 1, none⟩) (Kd.R_far (p := ⟨gb158, 0, none⟩) (Kd.R_far (p := ⟨gb157, 1, none⟩) (Kd.R_far (p := ⟨gb157, 0, none⟩) (Kd.R_types (Kd.R_types HO164.out BK157.out (by decide)) BK158.out (by decide)) (fun _ hk => hk.1.2) (.slice Ao9 t159.length co9)) (fun _ hk => hk.1.2) (.slice Ao11 t162.length co11)) (fun _ hk => hk.2) (.slice Ao9 t159.length co9)) (fun _ hk => hk.2) (.slice Ao11 t162.length co11)) (fun _ hk => hk.2) (.int .i64 a0_2)) (fun _ hk => hk.2) (.bool a0_3)) (fun _ hk => trivial), by repeat (first | (with_reducible first | exact HB.out | apply below_alloc | apply pw_below_drewN | apply below_drew1 | refine below_set ?_ GE157.out | refine below_set ?_ GE158.out) | exact HB.out)⟩
end Go.Proofs.YtjopbfidjapmbaaGreatDoor.Q
end
