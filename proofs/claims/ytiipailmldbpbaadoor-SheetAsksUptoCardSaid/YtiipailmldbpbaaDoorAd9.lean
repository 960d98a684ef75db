/- PART 9 OF A PROOF: Lean functions, and that the program computes them; written by hand and by a program. Not trusted: Lean checks it. -/
import Derived.Test.YtiipailmldbpbaaDoorAd3
import Derived.Test.YtiipailmldbpbaaDoorAd4
import Derived.Test.YtiipailmldbpbaaDoorAd7
import Derived.Test.YtiipailmldbpbaaDoorAd8
set_option linter.unusedVariables false
set_option linter.unusedSimpArgs false
namespace Go.Proofs.YtiipailmldbpbaaDoor.Q
open Go.RowKit Go.Proofs.YtiipailmldbpbaaDoorW.PrintWords Go.Proofs.YtiipailmldbpbaaDoorW.PrintLast Go.Proofs.YtiipailmldbpbaaDoorW.PrintMore
attribute [local go_sem] max2_int min2_int max_two min_two max_three min_three max_four min_four
set_option linter.unusedVariables false
set_option linter.unusedSimpArgs false
mutual
def page_Check.l0 : Nat → List ByteArray → Int → Int → ByteArray → Int → Int → List Bool → List Bool → List Bool → List ByteArray → List ByteArray → Option (Int)
  | 0, _, _, _, _, _, _, _, _, _, _, _ => none
  | k + 1, x23, x24, x25, x139000, x139001, x139002, x139003, x139004, x139005, x139006, x139007 => if x25 < x24 then (if 0 ≤ x25 then (if x25 < (x23.length : Int) then (if (rdOf ByteArray.empty x23 x25).toList = ([] : List UInt8) then (page_Check.l0 k x23 x24 (wrap64 (x25 + 1)) x139000 x139001 x139002 x139003 x139004 x139005 x139006 x139007) else (if x25 < (x139003.length : Int) then (if rdOf false x139003 x25 = true then (some 33) else ((page_letter.f (rdOf ByteArray.empty x23 x25)).bind fun t142 => (if t142 = true then (page_Check.l0 k x23 x24 (wrap64 (x25 + 1)) x139000 x139001 x139002 x139003 x139004 x139005 x139006 x139007) else (some 33)))) else (none))) else (none)) else (none)) else ((slots_List.f x139001 x139002 x139003 x139004 x139005).bind fun t143 => (if (x139007.length : Int) = (t143.length : Int) then ((slices_Clone_string_string.f x139007).bind fun t146 => ((some (([x139000] : List ByteArray) : List ByteArray)).bind fun y149 => (if t146.length + y149.length < 8796093022208 then ((some (t146 ++ y149 : List ByteArray)).bind fun y152 => (page_Check.l1 k y152 (y152.length : Int) 0)) else (none)))) else (some 160)))
def page_Check.l1 : Nat → List ByteArray → Int → Int → Option (Int)
  | 0, _, _, _ => none
  | k + 1, x60, x61, x62 => if x62 < x61 then (if 0 ≤ x62 then (if x62 < (x60.length : Int) then ((page_line.f (rdOf ByteArray.empty x60 x62)).bind fun t156 => (if t156 = true then (page_Check.l1 k x60 x61 (wrap64 (x62 + 1))) else (some 221))) else (none)) else (none)) else (some 0)
end
def page_Check.f (k : Nat) (a0_0 : ByteArray) (a0_1 : Int) (a0_2 : Int) (l0_3 : List Bool) (l0_4 : List Bool) (l0_5 : List Bool) (l0_6 : List ByteArray) (l0_7 : List ByteArray) : Option (Int) := (grid_Check.f k a0_1 a0_2 l0_3 l0_4 l0_5).bind fun t139 => (if t139 = 0 then (if (l0_6.length : Int) = (l0_3.length : Int) then (page_Check.l0 k l0_6 (l0_6.length : Int) 0 a0_0 a0_1 a0_2 l0_3 l0_4 l0_5 l0_6 l0_7) else (some 51)) else (some t139))
def page_Check.T12 : Bool × List (List Nat × List Nat) := (true, [([], []), ([0], [0]), ([1], [1]), ([], []), ([3], [3]), ([4], [4]), ([5], [5]), ([2, 6], [2, 6])])
def page_Check.B12 : List Nat := [0, 1, 3, 0, 8, 24, 56, 127]
theorem page_Check.tab12 : rtab .any (opsOf Tryd.f20 12) = page_Check.T12 := by kernel_rfl
theorem page_Check.bits12 : waitsOk page_Check.T12.2 page_Check.B12 = true := by kernel_rfl
def page_Check.T14 : Bool × List (List Nat × List Nat) := (true, [([], []), ([0], [0]), ([1], [1]), ([], []), ([3], [3]), ([4], [4]), ([2, 5, 2], [2, 5]), ([6], [6]), ([], [])])
def page_Check.B14 : List Nat := [0, 1, 3, 0, 8, 24, 63, 127, 0]
theorem page_Check.tab14 : rtab .any (opsOf Tryd.f20 14) = page_Check.T14 := by kernel_rfl
theorem page_Check.bits14 : waitsOk page_Check.T14.2 page_Check.B14 = true := by kernel_rfl
set_option maxHeartbeats 8000000 in
set_option maxRecDepth 100000 in
theorem page_Check.calls (k : Nat) (a0_0 : ByteArray) (a0_1 : Int) (a0_2 : Int) (A0_3 : Option Addr) (c0_3 : Nat) (l0_3 : List Bool) (A0_4 : Option Addr) (c0_4 : Nat) (l0_4 : List Bool) (A0_5 : Option Addr) (c0_5 : Nat) (l0_5 : List Bool) (A0_6 : Option Addr) (c0_6 : Nat) (l0_6 : List ByteArray) (A0_7 : Option Addr) (c0_7 : Nat) (l0_7 : List ByteArray) (r : Int) (w : World) (hr0_3 : Kd.C Kd.bool w A0_3 l0_3.length l0_3) (hc0_3 : l0_3.length ≤ c0_3) (hr0_4 : Kd.C Kd.bool w A0_4 l0_4.length l0_4) (hc0_4 : l0_4.length ≤ c0_4) (hr0_5 : Kd.C Kd.bool w A0_5 l0_5.length l0_5) (hc0_5 : l0_5.length ≤ c0_5) (hr0_6 : Kd.C Kd.string w A0_6 l0_6.length l0_6) (hc0_6 : l0_6.length ≤ c0_6) (hr0_7 : Kd.C Kd.string w A0_7 l0_7.length l0_7) (hc0_7 : l0_7.length ≤ c0_7) (hT : Tabs w) (h : page_Check.f k a0_0 a0_1 a0_2 l0_3 l0_4 l0_5 l0_6 l0_7 = some r) :
    Calls Tryd.prog 20 #[.agg #[.string a0_0, .int .i64 a0_1, .int .i64 a0_2, .slice A0_3 l0_3.length c0_3, .slice A0_4 l0_4.length c0_4, .slice A0_5 l0_5.length c0_5, .slice A0_6 l0_6.length c0_6, .slice A0_7 l0_7.length c0_7]] w fun e w' => e = .returned (.int .i64 r) ∧ Below w.heap.size w w' := by
  have HT := Aside0.mk hT
  clear hT
  have hu27 := Tryd.underlying27
  have hu24 := Tryd.underlying24
  have HR0_3 := Aside0.mk hr0_3
  have HC0_3 := Aside0.mk hc0_3
  clear hr0_3 hc0_3
  have HR0_4 := Aside0.mk hr0_4
  have HC0_4 := Aside0.mk hc0_4
  clear hr0_4 hc0_4
  have HR0_5 := Aside0.mk hr0_5
  have HC0_5 := Aside0.mk hc0_5
  clear hr0_5 hc0_5
  have HR0_6 := Aside0.mk hr0_6
  have HC0_6 := Aside0.mk hc0_6
  clear hr0_6 hc0_6
  have HR0_7 := Aside0.mk hr0_7
  have HC0_7 := Aside0.mk hc0_7
  clear hr0_7 hc0_7
  have HB := Aside0.mk (Below.refl w.heap.size w)
  have H : ((grid_Check.f k a0_1 a0_2 l0_3 l0_4 l0_5).bind fun t139 => (if t139 = 0 then (if (l0_6.length : Int) = (l0_3.length : Int) then (page_Check.l0 k l0_6 (l0_6.length : Int) 0 a0_0 a0_1 a0_2 l0_3 l0_4 l0_5 l0_6 l0_7) else (some 51)) else (some t139))) = some r := h
  clear h
  replace H := Option.bind_eq_some_iff.mp H
  obtain ⟨t139, A20, H⟩ := H
  replace H : (if t139 = 0 then (if (l0_6.length : Int) = (l0_3.length : Int) then (page_Check.l0 k l0_6 (l0_6.length : Int) 0 a0_0 a0_1 a0_2 l0_3 l0_4 l0_5 l0_6 l0_7) else (some 51)) else (some t139)) = some r := H
  have A2 := Aside0.mk A20
  clear A20
  by_cases c3 : t139 = 0
  · rw [if_pos c3] at H
    have c3b0 : (t139 == 0) = true := beq_iff_eq.mpr c3
    have c3b1 : (t139 != 0) = false := bne_eq_false_iff_eq.mpr c3
    clear c3
    by_cases c4 : (l0_6.length : Int) = (l0_3.length : Int)
    · rw [if_pos c4] at H
      have c4b0 : ((l0_6.length : Int) == (l0_3.length : Int)) = true := beq_iff_eq.mpr c4
      have c4b1 : ((l0_6.length : Int) != (l0_3.length : Int)) = false := bne_eq_false_iff_eq.mpr c4
      have c4b2 : (l0_6.length == l0_3.length) = true := by first | simpa using c4 | (simp at c4 ⊢; omega)
      clear c4
      have H' := Aside0.mk H
      clear H
      go_enter Tryd.func20, Tryd.ntmps20
      go_wp2_with (first | ((with_reducible refine gate_dst (N := 1) rfl ?_); refine box_event ?hg (N := 1) ?hd (cs := #[.string a0_0, .int .i64 a0_1, .int .i64 a0_2, .slice A0_3 l0_3.length c0_3, .slice A0_4 l0_4.length c0_4, .slice A0_5 l0_5.length c0_5, .slice A0_6 l0_6.length c0_6, .slice A0_7 l0_7.length c0_7]) (t := 27) ?hr ?_; (case hd => rfl); (case hg => rfl); (case hr => first | (go_simp; done) | (go_simp; rfl)); intro gb138 hg w5 hbox hb; have n0_ := Aside0.mk (below_step (by repeat (first | (with_reducible first | exact HB.out | apply below_alloc | apply pw_below_drewN | apply below_drew1) | exact HB.out)) hb); have n1_ := Aside0.mk (hbox); have n2_ := Aside0.mk ((by rw [hg]; exact (below_size (by repeat (first | (with_reducible first | exact HB.out | apply below_alloc | apply pw_below_drewN | apply below_drew1) | exact HB.out))) : w.heap.size ≤ gb138)); have n3_ := Aside0.mk ((by rw [hg]; exact (below_size (by repeat (first | (with_reducible first | exact HB.out | apply below_alloc | apply pw_below_drewN | apply below_drew1) | exact HB.out))) : w.heap.size ≤ gb138)); clear HB; have HB := n0_; have BK138 := n1_; have GW138 := n2_; have GE138 := n3_; clear n0_ n1_ n2_ n3_; clear hb hbox hg; have hcz6_0 : w5.cell? ⟨gb138, 0, none⟩ = some (.string a0_0) := (blk_cell BK138.out 0).trans rfl; have hcz6_1 : w5.cell? ⟨gb138, 1, none⟩ = some (.int .i64 a0_1) := (blk_cell BK138.out 1).trans rfl; have hcz6_2 : w5.cell? ⟨gb138, 2, none⟩ = some (.int .i64 a0_2) := (blk_cell BK138.out 2).trans rfl; have hcz6_3 : w5.cell? ⟨gb138, 3, none⟩ = some (.slice A0_3 l0_3.length c0_3) := (blk_cell BK138.out 3).trans rfl; have hcz6_4 : w5.cell? ⟨gb138, 4, none⟩ = some (.slice A0_4 l0_4.length c0_4) := (blk_cell BK138.out 4).trans rfl; have hcz6_5 : w5.cell? ⟨gb138, 5, none⟩ = some (.slice A0_5 l0_5.length c0_5) := (blk_cell BK138.out 5).trans rfl; have hcz6_6 : w5.cell? ⟨gb138, 6, none⟩ = some (.slice A0_6 l0_6.length c0_6) := (blk_cell BK138.out 6).trans rfl; have hcz6_7 : w5.cell? ⟨gb138, 7, none⟩ = some (.slice A0_7 l0_7.length c0_7) := (blk_cell BK138.out 7).trans rfl; have hfz6_0 := blk_frozen BK138.out 0; have hfz6_1 := blk_frozen BK138.out 1; have hfz6_2 := blk_frozen BK138.out 2; have hfz6_3 := blk_frozen BK138.out 3; have hfz6_4 := blk_frozen BK138.out 4; have hfz6_5 := blk_frozen BK138.out 5; have hfz6_6 := blk_frozen BK138.out 6; have hfz6_7 := blk_frozen BK138.out 7) | ((with_reducible refine gate_callee (f := 32) rfl ?_); refine goesL_ (some 10) rfl rfl Tryd.func32 (by kernel_rfl) rfl #[.agg #[.int .i64 a0_1, .int .i64 a0_2, .slice A0_3 l0_3.length c0_3, .slice A0_4 l0_4.length c0_4, .slice A0_5 l0_5.length c0_5]] rfl (by (try simp only [List.map_toArray, List.map_cons, List.map_nil]); first | done | rfl | (simp only [List.length_drop, List.length_take]; rfl)) ?_; (with_reducible refine (grid_Check.calls k a0_1 a0_2 _ _ l0_3 _ _ l0_4 _ _ l0_5 t139 _ ?side1 ?side2 ?side3 ?side4 ?side5 ?side6 A2.out).mono ?_); (case side1 => repeat (first | exact (Kd.C_below HR0_3.out HB.out) | (with_reducible refine Kd.C_alloc ?_ _) | (with_reducible refine Kd.C_drewN ?_ _) | (with_reducible refine Kd.C_drew ?_))); (case side2 => exact HC0_3.out); (case side3 => repeat (first | exact (Kd.C_below HR0_4.out HB.out) | (with_reducible refine Kd.C_alloc ?_ _) | (with_reducible refine Kd.C_drewN ?_ _) | (with_reducible refine Kd.C_drew ?_))); (case side4 => exact HC0_4.out); (case side5 => repeat (first | exact (Kd.C_below HR0_5.out HB.out) | (with_reducible refine Kd.C_alloc ?_ _) | (with_reducible refine Kd.C_drewN ?_ _) | (with_reducible refine Kd.C_drew ?_))); (case side6 => exact HC0_5.out); rintro e w7 ⟨rfl, hb⟩; refine ⟨_, rfl, ?_⟩; have n0_ := Aside0.mk (blk_below (g := gb138) (o := .cells #[.string a0_0, .int .i64 a0_1, .int .i64 a0_2, .slice A0_3 l0_3.length c0_3, .slice A0_4 l0_4.length c0_4, .slice A0_5 l0_5.length c0_5, .slice A0_6 l0_6.length c0_6, .slice A0_7 l0_7.length c0_7] 27 (0, 0)) (by (with_reducible repeat (first | refine blk_drewN ?_ _ | refine blk_drew ?_ | refine blk_alloc ?_ _)); exact BK138.out) hb); have n1_ := Aside0.mk (below_step (by repeat (first | (with_reducible first | exact HB.out | apply below_alloc | apply pw_below_drewN | apply below_drew1 | refine below_set ?_ GE138.out) | exact HB.out)) hb); clear BK138; clear HB; have BK138 := n0_; have HB := n1_; clear n0_ n1_; (try clear hb); (try clear hb2); (try clear hk); (try clear hi); have hcz8_0 : w7.cell? ⟨gb138, 0, none⟩ = some (.string a0_0) := (blk_cell BK138.out 0).trans rfl; have hcz8_1 : w7.cell? ⟨gb138, 1, none⟩ = some (.int .i64 a0_1) := (blk_cell BK138.out 1).trans rfl; have hcz8_2 : w7.cell? ⟨gb138, 2, none⟩ = some (.int .i64 a0_2) := (blk_cell BK138.out 2).trans rfl; have hcz8_3 : w7.cell? ⟨gb138, 3, none⟩ = some (.slice A0_3 l0_3.length c0_3) := (blk_cell BK138.out 3).trans rfl; have hcz8_4 : w7.cell? ⟨gb138, 4, none⟩ = some (.slice A0_4 l0_4.length c0_4) := (blk_cell BK138.out 4).trans rfl; have hcz8_5 : w7.cell? ⟨gb138, 5, none⟩ = some (.slice A0_5 l0_5.length c0_5) := (blk_cell BK138.out 5).trans rfl; have hcz8_6 : w7.cell? ⟨gb138, 6, none⟩ = some (.slice A0_6 l0_6.length c0_6) := (blk_cell BK138.out 6).trans rfl; have hcz8_7 : w7.cell? ⟨gb138, 7, none⟩ = some (.slice A0_7 l0_7.length c0_7) := (blk_cell BK138.out 7).trans rfl; have hfz8_0 := blk_frozen BK138.out 0; have hfz8_1 := blk_frozen BK138.out 1; have hfz8_2 := blk_frozen BK138.out 2; have hfz8_3 := blk_frozen BK138.out 3; have hfz8_4 := blk_frozen BK138.out 4; have hfz8_5 := blk_frozen BK138.out 5; have hfz8_6 := blk_frozen BK138.out 6; have hfz8_7 := blk_frozen BK138.out 7))
      go_loopg [25] k (fun kq v25 w' => ∃ (x25_1 : Int), v25 = .int .i64 x25_1 ∧ Aside0 (page_Check.l0 kq l0_6 (l0_6.length : Int) x25_1 a0_0 a0_1 a0_2 l0_3 l0_4 l0_5 l0_6 l0_7 = some r) ∧ Aside0 (kq ≤ k) ∧ Aside0 (w'.heap[gb138]? = some (.cells #[.string a0_0, .int .i64 a0_1, .int .i64 a0_2, (.slice A0_3 l0_3.length c0_3), (.slice A0_4 l0_4.length c0_4), (.slice A0_5 l0_5.length c0_5), (.slice A0_6 l0_6.length c0_6), (.slice A0_7 l0_7.length c0_7)] 27 (0, 0))) ∧ Aside0 (Below w.heap.size w w'))
      case atStart => exact ⟨(0), (by first | rfl | (simp; done) | (simp [*]; done)), H', ⟨Nat.le_refl _⟩, ⟨by (with_reducible repeat (first | refine blk_drewN ?_ _ | refine blk_drew ?_ | refine blk_alloc ?_ _)); exact BK138.out⟩, ⟨by repeat (first | (with_reducible first | exact HB.out | apply below_alloc | apply pw_below_drewN | apply below_drew1 | refine below_set ?_ GE138.out) | exact HB.out)⟩⟩
      case round =>
        clear H'
        try clear c2
        try clear p2
        try clear c3
        try clear c3b0
        try clear c3b1
        try clear c4
        try clear c4b0
        try clear c4b1
        try clear c4b2
        try clear hcz6_0
        try clear hcz6_1
        try clear hcz6_2
        try clear hcz6_3
        try clear hcz6_4
        try clear hcz6_5
        try clear hcz6_6
        try clear hcz6_7
        try clear hcz8_0
        try clear hcz8_1
        try clear hcz8_2
        try clear hcz8_3
        try clear hcz8_4
        try clear hcz8_5
        try clear hcz8_6
        try clear hcz8_7
        try clear hfz6_0
        try clear hfz6_1
        try clear hfz6_2
        try clear hfz6_3
        try clear hfz6_4
        try clear hfz6_5
        try clear hfz6_6
        try clear hfz6_7
        try clear hfz8_0
        try clear hfz8_1
        try clear hfz8_2
        try clear hfz8_3
        try clear hfz8_4
        try clear hfz8_5
        try clear hfz8_6
        try clear hfz8_7
        obtain ⟨x25_1, rfl, HA, HK1, BK138, HB⟩ := hrel
        cases gk with
        | zero => exact absurd HA.out (by simp [page_Check.l0])
        | succ k1 =>
          have H := HA.out
          clear HA
          simp only [page_Check.l0] at H
          by_cases c9 : x25_1 < (l0_6.length : Int)
          · rw [if_pos c9] at H
            have c9b0 : decide (x25_1 < (l0_6.length : Int)) = true := decide_eq_true c9
            clear c9
            by_cases c10 : 0 ≤ x25_1
            · rw [if_pos c10] at H
              have c10b0 : decide (0 ≤ x25_1) = true := decide_eq_true c10
              clear c10
              by_cases c11 : x25_1 < (l0_6.length : Int)
              · rw [if_pos c11] at H
                have c11b0 : decide (x25_1 < (l0_6.length : Int)) = true := decide_eq_true c11
                clear c11
                by_cases c12 : (rdOf ByteArray.empty l0_6 x25_1).toList = ([] : List UInt8)
                · rw [if_pos c12] at H
                  have c12b0 : ((rdOf ByteArray.empty l0_6 x25_1).toList == ([] : List UInt8)) = true := beq_iff_eq.mpr c12
                  have c12b1 : ((rdOf ByteArray.empty l0_6 x25_1).toList != ([] : List UInt8)) = false := bne_eq_false_iff_eq.mpr c12
                  clear c12
                  have H' := Aside0.mk H
                  clear H
                  have p140 : 0 ≤ (x25_1 : Int) := of_decide_eq_true (by first | (with_reducible assumption) | assumption)
                  have q140 : x25_1 < (l0_6.length : Int) := of_decide_eq_true (by first | (with_reducible assumption) | assumption)
                  obtain ⟨ad140, e140, hx140_0⟩ := Kd.at_string HR0_6.out x25_1 p140 q140
                  cases e140
                  replace hx140_0 := (HB.out.cell (World.block_lt_of_cell? w _ hx140_0)).trans hx140_0
                  replace p140 := eq_true p140
                  replace q140 := eq_true q140
                  go_wp2
                  go_roundg k1
                  case measure => have := HK1.out; omega
                  case rel => exact ⟨(wrap64 (x25_1 + 1)), (by first | rfl | (simp; done) | (simp [*]; done)), H', ⟨by have := HK1.out; omega⟩, ⟨by (with_reducible repeat (first | refine blk_drewN ?_ _ | refine blk_drew ?_ | refine blk_alloc ?_ _)); exact BK138.out⟩, ⟨by repeat (first | (with_reducible first | exact HB.out | apply below_alloc | apply pw_below_drewN | apply below_drew1 | refine below_set ?_ GE138.out) | exact HB.out)⟩⟩
                · rw [if_neg c12] at H
                  have c12b0 : ((rdOf ByteArray.empty l0_6 x25_1).toList == ([] : List UInt8)) = false := beq_eq_false_iff_ne.mpr c12
                  have c12b1 : ((rdOf ByteArray.empty l0_6 x25_1).toList != ([] : List UInt8)) = true := bne_iff_ne.mpr c12
                  by_cases c13 : x25_1 < (l0_3.length : Int)
                  · rw [if_pos c13] at H
                    have c13b0 : decide (x25_1 < (l0_3.length : Int)) = true := decide_eq_true c13
                    clear c13
                    obtain ⟨bq14, hbq14⟩ : ∃ b_ : Bool, b_ = (rdOf false l0_3 x25_1) := ⟨_, rfl⟩
                    replace H : (if bq14 = true then (some 33) else ((page_letter.f (rdOf ByteArray.empty l0_6 x25_1)).bind fun t142 => (if t142 = true then (page_Check.l0 k1 l0_6 (l0_6.length : Int) (wrap64 (x25_1 + 1)) a0_0 a0_1 a0_2 l0_3 l0_4 l0_5 l0_6 l0_7) else (some 33)))) = some r := by rw [← hbq14] at H; exact H
                    have Nbq14 := Aside0.mk hbq14
                    clear hbq14
                    by_cases c15 : bq14 = true
                    · subst c15
                      have H1 : (some 33) = some r := by rw [if_pos rfl] at H; exact H
                      clear H
                      have H := H1
                      clear H1
                      obtain rfl := Option.some.inj H
                      have p140 : 0 ≤ (x25_1 : Int) := of_decide_eq_true (by first | (with_reducible assumption) | assumption)
                      have q140 : x25_1 < (l0_6.length : Int) := of_decide_eq_true (by first | (with_reducible assumption) | assumption)
                      obtain ⟨ad140, e140, hx140_0⟩ := Kd.at_string HR0_6.out x25_1 p140 q140
                      cases e140
                      replace hx140_0 := (HB.out.cell (World.block_lt_of_cell? w _ hx140_0)).trans hx140_0
                      replace p140 := eq_true p140
                      replace q140 := eq_true q140
                      have hcz16_0 : wr.cell? ⟨gb138, 0, none⟩ = some (.string a0_0) := (blk_cell BK138.out 0).trans rfl
                      have hcz16_1 : wr.cell? ⟨gb138, 1, none⟩ = some (.int .i64 a0_1) := (blk_cell BK138.out 1).trans rfl
                      have hcz16_2 : wr.cell? ⟨gb138, 2, none⟩ = some (.int .i64 a0_2) := (blk_cell BK138.out 2).trans rfl
                      have hcz16_3 : wr.cell? ⟨gb138, 3, none⟩ = some (.slice A0_3 l0_3.length c0_3) := (blk_cell BK138.out 3).trans rfl
                      have hcz16_4 : wr.cell? ⟨gb138, 4, none⟩ = some (.slice A0_4 l0_4.length c0_4) := (blk_cell BK138.out 4).trans rfl
                      have hcz16_5 : wr.cell? ⟨gb138, 5, none⟩ = some (.slice A0_5 l0_5.length c0_5) := (blk_cell BK138.out 5).trans rfl
                      have hcz16_6 : wr.cell? ⟨gb138, 6, none⟩ = some (.slice (some ad140) l0_6.length c0_6) := (blk_cell BK138.out 6).trans rfl
                      have hcz16_7 : wr.cell? ⟨gb138, 7, none⟩ = some (.slice A0_7 l0_7.length c0_7) := (blk_cell BK138.out 7).trans rfl
                      have hfz16_0 := blk_frozen BK138.out 0
                      have hfz16_1 := blk_frozen BK138.out 1
                      have hfz16_2 := blk_frozen BK138.out 2
                      have hfz16_3 := blk_frozen BK138.out 3
                      have hfz16_4 := blk_frozen BK138.out 4
                      have hfz16_5 := blk_frozen BK138.out 5
                      have hfz16_6 := blk_frozen BK138.out 6
                      have hfz16_7 := blk_frozen BK138.out 7
                      have p141 : 0 ≤ (x25_1 : Int) := of_decide_eq_true (by first | (with_reducible assumption) | assumption)
                      have q141 : x25_1 < (l0_3.length : Int) := of_decide_eq_true (by first | (with_reducible assumption) | assumption)
                      obtain ⟨ad141, e141, hx141_0⟩ := Kd.at_bool HR0_3.out x25_1 p141 q141
                      (try rw [← Nbq14.out] at hx141_0)
                      cases e141
                      replace hx141_0 := (HB.out.cell (World.block_lt_of_cell? w _ hx141_0)).trans hx141_0
                      replace p141 := eq_true p141
                      replace q141 := eq_true q141
                      go_wp2
                      go_ret
                      exact ⟨by first | rfl | (simp [errW_none, errW_some] <;> rfl) | (simp [*, errW_none, errW_some] <;> rfl) | (exfalso; contradiction), by repeat (first | (with_reducible first | exact HB.out | apply below_alloc | apply pw_below_drewN | apply below_drew1 | refine below_set ?_ GE138.out) | exact HB.out)⟩
                    · replace c15 := Bool.eq_false_iff.mpr c15
                      subst c15
                      have H1 : ((page_letter.f (rdOf ByteArray.empty l0_6 x25_1)).bind fun t142 => (if t142 = true then (page_Check.l0 k1 l0_6 (l0_6.length : Int) (wrap64 (x25_1 + 1)) a0_0 a0_1 a0_2 l0_3 l0_4 l0_5 l0_6 l0_7) else (some 33))) = some r := by rw [if_neg (show ¬ (false = true) by decide)] at H; exact H
                      clear H
                      have H := H1
                      clear H1
                      replace H := Option.bind_eq_some_iff.mp H
                      obtain ⟨t142, A170, H⟩ := H
                      replace H : (if t142 = true then (page_Check.l0 k1 l0_6 (l0_6.length : Int) (wrap64 (x25_1 + 1)) a0_0 a0_1 a0_2 l0_3 l0_4 l0_5 l0_6 l0_7) else (some 33)) = some r := H
                      have A17 := Aside0.mk A170
                      clear A170
                      by_cases c18 : t142 = true
                      · subst c18
                        have H1 : (page_Check.l0 k1 l0_6 (l0_6.length : Int) (wrap64 (x25_1 + 1)) a0_0 a0_1 a0_2 l0_3 l0_4 l0_5 l0_6 l0_7) = some r := by rw [if_pos rfl] at H; exact H
                        clear H
                        have H := H1
                        clear H1
                        have H' := Aside0.mk H
                        clear H
                        have p140 : 0 ≤ (x25_1 : Int) := of_decide_eq_true (by first | (with_reducible assumption) | assumption)
                        have q140 : x25_1 < (l0_6.length : Int) := of_decide_eq_true (by first | (with_reducible assumption) | assumption)
                        obtain ⟨ad140, e140, hx140_0⟩ := Kd.at_string HR0_6.out x25_1 p140 q140
                        cases e140
                        replace hx140_0 := (HB.out.cell (World.block_lt_of_cell? w _ hx140_0)).trans hx140_0
                        replace p140 := eq_true p140
                        replace q140 := eq_true q140
                        have hcz19_0 : wr.cell? ⟨gb138, 0, none⟩ = some (.string a0_0) := (blk_cell BK138.out 0).trans rfl
                        have hcz19_1 : wr.cell? ⟨gb138, 1, none⟩ = some (.int .i64 a0_1) := (blk_cell BK138.out 1).trans rfl
                        have hcz19_2 : wr.cell? ⟨gb138, 2, none⟩ = some (.int .i64 a0_2) := (blk_cell BK138.out 2).trans rfl
                        have hcz19_3 : wr.cell? ⟨gb138, 3, none⟩ = some (.slice A0_3 l0_3.length c0_3) := (blk_cell BK138.out 3).trans rfl
                        have hcz19_4 : wr.cell? ⟨gb138, 4, none⟩ = some (.slice A0_4 l0_4.length c0_4) := (blk_cell BK138.out 4).trans rfl
                        have hcz19_5 : wr.cell? ⟨gb138, 5, none⟩ = some (.slice A0_5 l0_5.length c0_5) := (blk_cell BK138.out 5).trans rfl
                        have hcz19_6 : wr.cell? ⟨gb138, 6, none⟩ = some (.slice (some ad140) l0_6.length c0_6) := (blk_cell BK138.out 6).trans rfl
                        have hcz19_7 : wr.cell? ⟨gb138, 7, none⟩ = some (.slice A0_7 l0_7.length c0_7) := (blk_cell BK138.out 7).trans rfl
                        have hfz19_0 := blk_frozen BK138.out 0
                        have hfz19_1 := blk_frozen BK138.out 1
                        have hfz19_2 := blk_frozen BK138.out 2
                        have hfz19_3 := blk_frozen BK138.out 3
                        have hfz19_4 := blk_frozen BK138.out 4
                        have hfz19_5 := blk_frozen BK138.out 5
                        have hfz19_6 := blk_frozen BK138.out 6
                        have hfz19_7 := blk_frozen BK138.out 7
                        have p141 : 0 ≤ (x25_1 : Int) := of_decide_eq_true (by first | (with_reducible assumption) | assumption)
                        have q141 : x25_1 < (l0_3.length : Int) := of_decide_eq_true (by first | (with_reducible assumption) | assumption)
                        obtain ⟨ad141, e141, hx141_0⟩ := Kd.at_bool HR0_3.out x25_1 p141 q141
                        (try rw [← Nbq14.out] at hx141_0)
                        cases e141
                        replace hx141_0 := (HB.out.cell (World.block_lt_of_cell? w _ hx141_0)).trans hx141_0
                        replace p141 := eq_true p141
                        replace q141 := eq_true q141
                        go_wp2_with (first | (go_at_call 33; (with_reducible refine (page_letter.calls (rdOf ByteArray.empty l0_6 x25_1) true _ A17.out).mono ?_); rintro e w20 ⟨rfl, hb⟩; have n0_ := Aside0.mk (blk_below (g := gb138) (o := .cells #[.string a0_0, .int .i64 a0_1, .int .i64 a0_2, .slice (some ad141) l0_3.length c0_3, .slice A0_4 l0_4.length c0_4, .slice A0_5 l0_5.length c0_5, .slice (some ad140) l0_6.length c0_6, .slice A0_7 l0_7.length c0_7] 27 (0, 0)) (by (with_reducible repeat (first | refine blk_drewN ?_ _ | refine blk_drew ?_ | refine blk_alloc ?_ _)); exact BK138.out) hb); have n1_ := Aside0.mk (below_step (by repeat (first | (with_reducible first | exact HB.out | apply below_alloc | apply pw_below_drewN | apply below_drew1 | refine below_set ?_ GE138.out) | exact HB.out)) hb); clear BK138; clear HB; have BK138 := n0_; have HB := n1_; clear n0_ n1_; (try clear hb); (try clear hb2); (try clear hk); (try clear hi)))
                        go_roundg k1
                        case measure => have := HK1.out; omega
                        case rel => exact ⟨(wrap64 (x25_1 + 1)), (by first | rfl | (simp; done) | (simp [*]; done)), H', ⟨by have := HK1.out; omega⟩, ⟨by (with_reducible repeat (first | refine blk_drewN ?_ _ | refine blk_drew ?_ | refine blk_alloc ?_ _)); exact BK138.out⟩, ⟨by repeat (first | (with_reducible first | exact HB.out | apply below_alloc | apply pw_below_drewN | apply below_drew1 | refine below_set ?_ GE138.out) | exact HB.out)⟩⟩
                      · replace c18 := Bool.eq_false_iff.mpr c18
                        subst c18
                        have H1 : (some 33) = some r := by rw [if_neg (show ¬ (false = true) by decide)] at H; exact H
                        clear H
                        have H := H1
                        clear H1
                        obtain rfl := Option.some.inj H
                        have p140 : 0 ≤ (x25_1 : Int) := of_decide_eq_true (by first | (with_reducible assumption) | assumption)
                        have q140 : x25_1 < (l0_6.length : Int) := of_decide_eq_true (by first | (with_reducible assumption) | assumption)
                        obtain ⟨ad140, e140, hx140_0⟩ := Kd.at_string HR0_6.out x25_1 p140 q140
                        cases e140
                        replace hx140_0 := (HB.out.cell (World.block_lt_of_cell? w _ hx140_0)).trans hx140_0
                        replace p140 := eq_true p140
                        replace q140 := eq_true q140
                        have hcz21_0 : wr.cell? ⟨gb138, 0, none⟩ = some (.string a0_0) := (blk_cell BK138.out 0).trans rfl
                        have hcz21_1 : wr.cell? ⟨gb138, 1, none⟩ = some (.int .i64 a0_1) := (blk_cell BK138.out 1).trans rfl
                        have hcz21_2 : wr.cell? ⟨gb138, 2, none⟩ = some (.int .i64 a0_2) := (blk_cell BK138.out 2).trans rfl
                        have hcz21_3 : wr.cell? ⟨gb138, 3, none⟩ = some (.slice A0_3 l0_3.length c0_3) := (blk_cell BK138.out 3).trans rfl
                        have hcz21_4 : wr.cell? ⟨gb138, 4, none⟩ = some (.slice A0_4 l0_4.length c0_4) := (blk_cell BK138.out 4).trans rfl
                        have hcz21_5 : wr.cell? ⟨gb138, 5, none⟩ = some (.slice A0_5 l0_5.length c0_5) := (blk_cell BK138.out 5).trans rfl
                        have hcz21_6 : wr.cell? ⟨gb138, 6, none⟩ = some (.slice (some ad140) l0_6.length c0_6) := (blk_cell BK138.out 6).trans rfl
                        have hcz21_7 : wr.cell? ⟨gb138, 7, none⟩ = some (.slice A0_7 l0_7.length c0_7) := (blk_cell BK138.out 7).trans rfl
                        have hfz21_0 := blk_frozen BK138.out 0
                        have hfz21_1 := blk_frozen BK138.out 1
                        have hfz21_2 := blk_frozen BK138.out 2
                        have hfz21_3 := blk_frozen BK138.out 3
                        have hfz21_4 := blk_frozen BK138.out 4
                        have hfz21_5 := blk_frozen BK138.out 5
                        have hfz21_6 := blk_frozen BK138.out 6
                        have hfz21_7 := blk_frozen BK138.out 7
                        have p141 : 0 ≤ (x25_1 : Int) := of_decide_eq_true (by first | (with_reducible assumption) | assumption)
                        have q141 : x25_1 < (l0_3.length : Int) := of_decide_eq_true (by first | (with_reducible assumption) | assumption)
                        obtain ⟨ad141, e141, hx141_0⟩ := Kd.at_bool HR0_3.out x25_1 p141 q141
                        (try rw [← Nbq14.out] at hx141_0)
                        cases e141
                        replace hx141_0 := (HB.out.cell (World.block_lt_of_cell? w _ hx141_0)).trans hx141_0
                        replace p141 := eq_true p141
                        replace q141 := eq_true q141
                        go_wp2_with (first | (go_at_call 33; (with_reducible refine (page_letter.calls (rdOf ByteArray.empty l0_6 x25_1) false _ A17.out).mono ?_); rintro e w22 ⟨rfl, hb⟩; have n0_ := Aside0.mk (blk_below (g := gb138) (o := .cells #[.string a0_0, .int .i64 a0_1, .int .i64 a0_2, .slice (some ad141) l0_3.length c0_3, .slice A0_4 l0_4.length c0_4, .slice A0_5 l0_5.length c0_5, .slice (some ad140) l0_6.length c0_6, .slice A0_7 l0_7.length c0_7] 27 (0, 0)) (by (with_reducible repeat (first | refine blk_drewN ?_ _ | refine blk_drew ?_ | refine blk_alloc ?_ _)); exact BK138.out) hb); have n1_ := Aside0.mk (below_step (by repeat (first | (with_reducible first | exact HB.out | apply below_alloc | apply pw_below_drewN | apply below_drew1 | refine below_set ?_ GE138.out) | exact HB.out)) hb); clear BK138; clear HB; have BK138 := n0_; have HB := n1_; clear n0_ n1_; (try clear hb); (try clear hb2); (try clear hk); (try clear hi)))
                        go_ret
                        exact ⟨by first | rfl | (simp [errW_none, errW_some] <;> rfl) | (simp [*, errW_none, errW_some] <;> rfl) | (exfalso; contradiction), by repeat (first | (with_reducible first | exact HB.out | apply below_alloc | apply pw_below_drewN | apply below_drew1 | refine below_set ?_ GE138.out) | exact HB.out)⟩
                  · rw [if_neg c13] at H
                    exact absurd H (by simp)
              · rw [if_neg c11] at H
                exact absurd H (by simp)
            · rw [if_neg c10] at H
              exact absurd H (by simp)
          · rw [if_neg c9] at H
            have c9b0 : decide (x25_1 < (l0_6.length : Int)) = false := decide_eq_false c9
            clear c9
            replace H := Option.bind_eq_some_iff.mp H
            obtain ⟨t143, A230, H⟩ := H
            replace H : (if (l0_7.length : Int) = (t143.length : Int) then ((slices_Clone_string_string.f l0_7).bind fun t146 => ((some (([a0_0] : List ByteArray) : List ByteArray)).bind fun y149 => (if t146.length + y149.length < 8796093022208 then ((some (t146 ++ y149 : List ByteArray)).bind fun y152 => (page_Check.l1 k1 y152 (y152.length : Int) 0)) else (none)))) else (some 160)) = some r := H
            have A23 := Aside0.mk A230
            clear A230
            by_cases c24 : (l0_7.length : Int) = (t143.length : Int)
            · rw [if_pos c24] at H
              have c24b0 : ((l0_7.length : Int) == (t143.length : Int)) = true := beq_iff_eq.mpr c24
              have c24b1 : ((l0_7.length : Int) != (t143.length : Int)) = false := bne_eq_false_iff_eq.mpr c24
              have c24b2 : (l0_7.length == t143.length) = true := by first | simpa using c24 | (simp at c24 ⊢; omega)
              clear c24
              replace H := Option.bind_eq_some_iff.mp H
              obtain ⟨t146, A250, H⟩ := H
              replace H : ((some (([a0_0] : List ByteArray) : List ByteArray)).bind fun y149 => (if t146.length + y149.length < 8796093022208 then ((some (t146 ++ y149 : List ByteArray)).bind fun y152 => (page_Check.l1 k1 y152 (y152.length : Int) 0)) else (none))) = some r := H
              have A25 := Aside0.mk A250
              clear A250
              obtain ⟨y149, hy149⟩ : ∃ y_ : List ByteArray, y_ = (([a0_0] : List ByteArray)) := ⟨_, rfl⟩
              replace H : (if t146.length + y149.length < 8796093022208 then ((some (t146 ++ y149 : List ByteArray)).bind fun y152 => (page_Check.l1 k1 y152 (y152.length : Int) 0)) else (none)) = some r := by first | (rw [hy149]; with_reducible exact H) | (have H2_ := (Option.bind_some _ _).symm.trans H; rw [hy149]; with_reducible exact H2_) | (have H2_ := (Option.bind_some _ _).symm.trans H; with_reducible exact H2_) | with_reducible exact H | (rw [hy149]; exact H) | exact H
              have Ny149 := Aside0.mk hy149
              clear hy149
              by_cases c26 : t146.length + y149.length < 8796093022208
              · rw [if_pos c26] at H
                have LMc26 := Aside0.mk c26
                clear c26
                obtain ⟨y152, hy152⟩ : ∃ y_ : List ByteArray, y_ = (t146 ++ y149) := ⟨_, rfl⟩
                replace H : (page_Check.l1 k1 y152 (y152.length : Int) 0) = some r := by first | (rw [hy152]; with_reducible exact H) | (have H2_ := (Option.bind_some _ _).symm.trans H; rw [hy152]; with_reducible exact H2_) | (have H2_ := (Option.bind_some _ _).symm.trans H; with_reducible exact H2_) | with_reducible exact H | (rw [hy152]; exact H) | exact H
                have Ny152 := Aside0.mk hy152
                clear hy152
                have H' := Aside0.mk H
                clear H
                try go_wp2
                have n0_ := Aside0.mk (blk_drew BK138.out)
                have n1_ := Aside0.mk (below_drew1 HB.out)
                clear BK138
                clear HB
                have BK138 := n0_
                have HB := n1_
                clear n0_ n1_
                refine start_ (n := 8) (S := fun w' => w'.cell? ⟨gb138, 0, none⟩ = some (.string a0_0) ∧ w'.cell? ⟨gb138, 1, none⟩ = some (.int .i64 a0_1) ∧ w'.cell? ⟨gb138, 2, none⟩ = some (.int .i64 a0_2) ∧ w'.cell? ⟨gb138, 3, none⟩ = some (.slice A0_3 l0_3.length c0_3) ∧ w'.cell? ⟨gb138, 4, none⟩ = some (.slice A0_4 l0_4.length c0_4) ∧ w'.cell? ⟨gb138, 5, none⟩ = some (.slice A0_5 l0_5.length c0_5) ∧ w'.cell? ⟨gb138, 6, none⟩ = some (.slice A0_6 l0_6.length c0_6) ∧ w'.cell? ⟨gb138, 7, none⟩ = some (.slice A0_7 l0_7.length c0_7)) (ds := []) #[false, false, false, false, false, false, false, false] (by kernel_rfl) rfl rfl ⟨(blk_cell BK138.out 0).trans rfl, (blk_cell BK138.out 1).trans rfl, (blk_cell BK138.out 2).trans rfl, (blk_cell BK138.out 3).trans rfl, (blk_cell BK138.out 4).trans rfl, (blk_cell BK138.out 5).trans rfl, (blk_cell BK138.out 6).trans rfl, (blk_cell BK138.out 7).trans rfl⟩ (fun hHeld => ?_); refine with_tabW page_Check.tab12 page_Check.bits12 (fun HT_ HW_ => ?_)
                generalize wr.drew = w27 at BK138 HB hHeld ⊢
                refine pure_ (i := 0) (N := some 46) (v := ?_) (a' := ?_) #[true, false, false, false, false, false, false, false] rfl rfl (any_of HT_.out (by kernel_rfl)) (fun _ _ _ h => h) (Or.inl ⟨by rfl, ?_⟩) ?_ ?_
                rotate_left
                · intro w'
                  go_simp
                  with_reducible rfl
                rotate_left
                · simp only [Act.put, List.setIfInBounds_toArray, List.set_cons_zero, List.set_cons_succ, i64_w, i32_w]
                  rfl
                refine pure_ (i := 3) (N := some 49) (v := ?_) (a' := ?_) #[true, false, false, true, false, false, false, false] rfl rfl (any_of HT_.out (by kernel_rfl)) (fun _ _ _ h => h) (Or.inl ⟨by rfl, ?_⟩) ?_ ?_
                rotate_left
                · intro w'
                  go_simp
                  with_reducible rfl
                rotate_left
                · simp only [Act.put, List.setIfInBounds_toArray, List.set_cons_zero, List.set_cons_succ, i64_w, i32_w]
                  rfl
                refine take_ (i := 1) (N := some 47) (v := ?_) (a' := ?_) #[true, true, false, true, false, false, false, false] rfl rfl (take_ofW HT_.out HW_.out (by kernel_rfl)) (fun _ _ _ h => h) (Or.inl ⟨by rfl, ?_⟩) hHeld ?_ ?_
                rotate_left
                · rintro w' ⟨s0, s1, s2, s3, s4, s5, s6, s7⟩
                  go_simp
                  with_reducible rfl
                rotate_left
                · simp only [Act.put, List.setIfInBounds_toArray, List.set_cons_zero, List.set_cons_succ, i64_w, i32_w]
                  rfl
                refine pure_ (i := 2) (N := some 48) (v := ?_) (a' := ?_) #[true, true, true, true, false, false, false, false] rfl rfl (any_of HT_.out (by kernel_rfl)) (fun _ _ _ h => h) (Or.inl ⟨by rfl, ?_⟩) ?_ ?_
                rotate_left
                · intro w'
                  go_simp
                  with_reducible rfl
                rotate_left
                · simp only [Act.put, List.setIfInBounds_toArray, List.set_cons_zero, List.set_cons_succ, i64_w, i32_w]
                  rfl
                refine take_ (i := 4) (N := some 50) (v := ?_) (a' := ?_) #[true, true, true, true, true, false, false, false] rfl rfl (take_ofW HT_.out HW_.out (by kernel_rfl)) (fun _ _ _ h => h) (Or.inl ⟨by rfl, ?_⟩) hHeld ?_ ?_
                rotate_left
                · rintro w' ⟨s0, s1, s2, s3, s4, s5, s6, s7⟩
                  go_simp
                  with_reducible rfl
                rotate_left
                · simp only [Act.put, List.setIfInBounds_toArray, List.set_cons_zero, List.set_cons_succ, i64_w, i32_w]
                  rfl
                refine one_ (i := 5) (N := some 51) #[true, true, true, true, true, true, false, false] rfl rfl (one_of HT_.out (by kernel_rfl)) (by decide) (fun K hK => ?_)
                refine goes_ Tryd.func34 (by kernel_rfl) rfl #[.agg #[.int .i64 a0_1, .int .i64 a0_2, .slice A0_3 l0_3.length c0_3, .slice A0_4 l0_4.length c0_4, .slice A0_5 l0_5.length c0_5]] (by rfl) rfl rfl (by (try simp only [List.map_toArray, List.map_cons, List.map_nil]); first | done | rfl | (simp only [List.length_drop, List.length_take]; rfl)) ?_
                with_reducible refine (slots_List.calls a0_1 a0_2 _ _ l0_3 _ _ l0_4 _ _ l0_5 t143 _ ?side1 ?side2 ?side3 ?side4 ?side5 ?side6 A23.out).mono ?_
                (case side1 => repeat (first | exact (Kd.C_below HR0_3.out HB.out) | (with_reducible refine Kd.C_alloc ?_ _) | (with_reducible refine Kd.C_drewN ?_ _) | (with_reducible refine Kd.C_drew ?_)))
                (case side2 => exact HC0_3.out)
                (case side3 => repeat (first | exact (Kd.C_below HR0_4.out HB.out) | (with_reducible refine Kd.C_alloc ?_ _) | (with_reducible refine Kd.C_drewN ?_ _) | (with_reducible refine Kd.C_drew ?_)))
                (case side4 => exact HC0_4.out)
                (case side5 => repeat (first | exact (Kd.C_below HR0_5.out HB.out) | (with_reducible refine Kd.C_alloc ?_ _) | (with_reducible refine Kd.C_drewN ?_ _) | (with_reducible refine Kd.C_drew ?_)))
                (case side6 => exact HC0_5.out)
                rintro e w28 ⟨v144, rfl, ho0, hb⟩
                refine ⟨_, rfl, ?_⟩
                have n0_ := Aside0.mk (Kd.S_lower ho0 (below_size (by repeat (first | (with_reducible first | exact HB.out | apply below_alloc | apply pw_below_drewN | apply below_drew1 | refine below_set ?_ GE138.out) | exact HB.out))))
                have n1_ := Aside0.mk (blk_below (g := gb138) (o := .cells #[.string a0_0, .int .i64 a0_1, .int .i64 a0_2, .slice A0_3 l0_3.length c0_3, .slice A0_4 l0_4.length c0_4, .slice A0_5 l0_5.length c0_5, .slice A0_6 l0_6.length c0_6, .slice A0_7 l0_7.length c0_7] 27 (0, 0)) (by (with_reducible repeat (first | refine blk_drewN ?_ _ | refine blk_drew ?_ | refine blk_alloc ?_ _)); exact BK138.out) hb)
                have n2_ := Aside0.mk (below_step (by repeat (first | (with_reducible first | exact HB.out | apply below_alloc | apply pw_below_drewN | apply below_drew1 | refine below_set ?_ GE138.out) | exact HB.out)) hb)
                clear BK138
                clear HB
                have HO145 := n0_
                have BK138 := n1_
                have HB := n2_
                clear n0_ n1_ n2_
                (try clear hb)
                (try clear hb2)
                (try clear hk)
                (try clear hi)
                (try clear ho0)
                obtain ⟨Ao29, co29, eo29⟩ := Kd.S_slice HO145.out
                (first | subst eo29 | (injection eo29 with f1_ f2_ f3_; have f4_ := f1_.symm; have f5_ := f3_.symm; clear f1_ f2_ f3_; subst f4_; subst f5_))
                refine hK.out _ _ ⟨(blk_cell BK138.out 0).trans rfl, (blk_cell BK138.out 1).trans rfl, (blk_cell BK138.out 2).trans rfl, (blk_cell BK138.out 3).trans rfl, (blk_cell BK138.out 4).trans rfl, (blk_cell BK138.out 5).trans rfl, (blk_cell BK138.out 6).trans rfl, (blk_cell BK138.out 7).trans rfl⟩ (fun hHeld => ?_)
                clear hK K
                refine norm_ (a' := ?_) ?_ ?_
                rotate_left
                · show Act.put _ (some 51) _ = _
                  simp only [Act.put, List.setIfInBounds_toArray, List.set_cons_zero, List.set_cons_succ, i64_w, i32_w]
                  rfl
                refine pure_ (i := 6) (N := some 52) (v := ?_) (a' := ?_) #[true, true, true, true, true, true, true, false] rfl rfl (any_of HT_.out (by kernel_rfl)) (fun _ _ _ h => h) (Or.inl ⟨by rfl, ?_⟩) ?_ ?_
                rotate_left
                · intro w'
                  go_simp
                  with_reducible rfl
                rotate_left
                · simp only [Act.put, List.setIfInBounds_toArray, List.set_cons_zero, List.set_cons_succ, i64_w, i32_w]
                  rfl
                refine pure_ (i := 7) (N := some 53) (v := ?_) (a' := ?_) #[true, true, true, true, true, true, true, true] rfl rfl (any_of HT_.out (by kernel_rfl)) (fun _ _ _ h => h) (Or.inl ⟨by rfl, ?_⟩) ?_ ?_
                rotate_left
                · intro w'
                  go_simp
                  with_reducible rfl
                rotate_left
                · simp only [Act.put, List.setIfInBounds_toArray, List.set_cons_zero, List.set_cons_succ, i64_w, i32_w]
                  rfl
                refine done_ (done_of HT_.out (by kernel_rfl)) ?_
                try go_wp2
                have n0_ := Aside0.mk (Kd.S_drew HO145.out)
                have n1_ := Aside0.mk (blk_drew BK138.out)
                have n2_ := Aside0.mk (below_drew1 HB.out)
                clear HO145
                clear BK138
                clear HB
                have HO145 := n0_
                have BK138 := n1_
                have HB := n2_
                clear n0_ n1_ n2_
                refine start_ (n := 9) (S := fun w' => w'.cell? ⟨gb138, 0, none⟩ = some (.string a0_0) ∧ w'.cell? ⟨gb138, 1, none⟩ = some (.int .i64 a0_1) ∧ w'.cell? ⟨gb138, 2, none⟩ = some (.int .i64 a0_2) ∧ w'.cell? ⟨gb138, 3, none⟩ = some (.slice A0_3 l0_3.length c0_3) ∧ w'.cell? ⟨gb138, 4, none⟩ = some (.slice A0_4 l0_4.length c0_4) ∧ w'.cell? ⟨gb138, 5, none⟩ = some (.slice A0_5 l0_5.length c0_5) ∧ w'.cell? ⟨gb138, 6, none⟩ = some (.slice A0_6 l0_6.length c0_6) ∧ w'.cell? ⟨gb138, 7, none⟩ = some (.slice A0_7 l0_7.length c0_7)) (ds := []) #[false, false, false, false, false, false, false, false, false] (by kernel_rfl) rfl rfl ⟨(blk_cell BK138.out 0).trans rfl, (blk_cell BK138.out 1).trans rfl, (blk_cell BK138.out 2).trans rfl, (blk_cell BK138.out 3).trans rfl, (blk_cell BK138.out 4).trans rfl, (blk_cell BK138.out 5).trans rfl, (blk_cell BK138.out 6).trans rfl, (blk_cell BK138.out 7).trans rfl⟩ (fun hHeld => ?_); refine with_tabW page_Check.tab14 page_Check.bits14 (fun HT_ HW_ => ?_)
                generalize w28.drew = w30 at HO145 BK138 HB hHeld ⊢
                refine pure_ (i := 0) (N := some 54) (v := ?_) (a' := ?_) #[true, false, false, false, false, false, false, false, false] rfl rfl (any_of HT_.out (by kernel_rfl)) (fun _ _ _ h => h) (Or.inl ⟨by rfl, ?_⟩) ?_ ?_
                rotate_left
                · intro w'
                  go_simp
                  with_reducible rfl
                rotate_left
                · simp only [Act.put, List.setIfInBounds_toArray, List.set_cons_zero, List.set_cons_succ, i64_w, i32_w]
                  rfl
                refine pure_ (i := 3) (N := some 57) (v := ?_) (a' := ?_) #[true, false, false, true, false, false, false, false, false] rfl rfl (any_of HT_.out (by kernel_rfl)) (fun _ _ _ h => h) (Or.inl ⟨by rfl, ?_⟩) ?_ ?_
                rotate_left
                · intro w'
                  go_simp
                  with_reducible rfl
                rotate_left
                · simp only [Act.put, List.setIfInBounds_toArray, List.set_cons_zero, List.set_cons_succ, i64_w, i32_w]
                  rfl
                refine pure_ (i := 8) (N := some 62) (v := ?_) (a' := ?_) #[true, false, false, true, false, false, false, false, true] rfl rfl (any_of HT_.out (by kernel_rfl)) (fun _ _ _ h => h) (Or.inl ⟨by rfl, ?_⟩) ?_ ?_
                rotate_left
                · intro w'
                  go_simp
                  with_reducible rfl
                rotate_left
                · simp only [Act.put, List.setIfInBounds_toArray, List.set_cons_zero, List.set_cons_succ, i64_w, i32_w]
                  rfl
                refine take_ (i := 1) (N := some 55) (v := ?_) (a' := ?_) #[true, true, false, true, false, false, false, false, true] rfl rfl (take_ofW HT_.out HW_.out (by kernel_rfl)) (fun _ _ _ h => h) (Or.inl ⟨by rfl, ?_⟩) hHeld ?_ ?_
                rotate_left
                · rintro w' ⟨s0, s1, s2, s3, s4, s5, s6, s7⟩
                  go_simp
                  with_reducible rfl
                rotate_left
                · simp only [Act.put, List.setIfInBounds_toArray, List.set_cons_zero, List.set_cons_succ, i64_w, i32_w]
                  rfl
                refine take_ (i := 4) (N := some 58) (v := ?_) (a' := ?_) #[true, true, false, true, true, false, false, false, true] rfl rfl (take_ofW HT_.out HW_.out (by kernel_rfl)) (fun _ _ _ h => h) (Or.inl ⟨by rfl, ?_⟩) hHeld ?_ ?_
                rotate_left
                · rintro w' ⟨s0, s1, s2, s3, s4, s5, s6, s7⟩
                  go_simp
                  with_reducible rfl
                rotate_left
                · simp only [Act.put, List.setIfInBounds_toArray, List.set_cons_zero, List.set_cons_succ, i64_w, i32_w]
                  rfl
                refine join_ (σ := Value × Value) 2 #[true, true, true, true, true, true, false, false, true] (fun s_ => [(56, s_.1), (59, s_.2)]) (fun s_ w' => (w'.cell? ⟨gb138, 0, none⟩ = some (.string a0_0) ∧ w'.cell? ⟨gb138, 1, none⟩ = some (.int .i64 a0_1) ∧ w'.cell? ⟨gb138, 2, none⟩ = some (.int .i64 a0_2) ∧ w'.cell? ⟨gb138, 3, none⟩ = some (.slice A0_3 l0_3.length c0_3) ∧ w'.cell? ⟨gb138, 4, none⟩ = some (.slice A0_4 l0_4.length c0_4) ∧ w'.cell? ⟨gb138, 5, none⟩ = some (.slice A0_5 l0_5.length c0_5) ∧ w'.cell? ⟨gb138, 6, none⟩ = some (.slice A0_6 l0_6.length c0_6) ∧ w'.cell? ⟨gb138, 7, none⟩ = some (.slice A0_7 l0_7.length c0_7)) ∧ (Kd.S k93 93 w' w.heap.size (fun _ => True) (.slice Ao29 t143.length co29) t143) ∧ (Kd.R Kd.string 9 w' w.heap.size (fun k_ => some k_ ≠ (s_.2 : Value).ownBlock) s_.1 t146) ∧ (Kd.R Kd.string 9 w' w.heap.size (fun k_ => some k_ ≠ (s_.1 : Value).ownBlock) s_.2 y149) ∧ (w'.heap[gb138]? = some (.cells #[.string a0_0, .int .i64 a0_1, .int .i64 a0_2, .slice A0_3 l0_3.length c0_3, .slice A0_4 l0_4.length c0_4, .slice A0_5 l0_5.length c0_5, .slice A0_6 l0_6.length c0_6, .slice A0_7 l0_7.length c0_7] 27 (0, 0))) ∧ (Below w.heap.size w w')) ?_ ?_
                rotate_left
                · intro hCont
                  refine two_ (i := 2) (j := 5) (Ni := some 56) (Nj := some 59) #[true, true, true, true, true, false, false, false, true] #[true, true, false, true, true, true, false, false, true] rfl rfl rfl rfl (two_of HT_.out (by kernel_rfl)) (by decide) (by decide) (fun K hK => ?_) (fun K hK => ?_)
                  · skip
                    refine goes_ Tryd.func35 (by kernel_rfl) rfl #[.slice A0_7 l0_7.length c0_7] (by rfl) rfl rfl (by (try simp only [List.map_toArray, List.map_cons, List.map_nil]); first | done | rfl | (simp only [List.length_drop, List.length_take]; rfl)) ?_
                    with_reducible refine (slices_Clone_string_string.calls _ _ l0_7 t146 _ ?side1 ?side2 A25.out).mono ?_
                    (case side1 => repeat (first | exact (Kd.C_below HR0_7.out HB.out) | (with_reducible refine Kd.C_alloc ?_ _) | (with_reducible refine Kd.C_drewN ?_ _) | (with_reducible refine Kd.C_drew ?_)))
                    (case side2 => exact HC0_7.out)
                    rintro e w31 ⟨v147, rfl, ho0, hb⟩
                    refine ⟨_, rfl, ?_⟩
                    have n0_ := Aside0.mk (Kd.S_below (by (with_reducible repeat (first | apply Kd.S_alloc | apply Kd.S_drewN | apply Kd.S_drew)); exact HO145.out) hb)
                    have n1_ := Aside0.mk (Kd.R_lower ho0 (below_size (by repeat (first | (with_reducible first | exact HB.out | apply below_alloc | apply pw_below_drewN | apply below_drew1 | refine below_set ?_ GE138.out) | exact HB.out))))
                    have n2_ := Aside0.mk (blk_below (g := gb138) (o := .cells #[.string a0_0, .int .i64 a0_1, .int .i64 a0_2, .slice A0_3 l0_3.length c0_3, .slice A0_4 l0_4.length c0_4, .slice A0_5 l0_5.length c0_5, .slice A0_6 l0_6.length c0_6, .slice A0_7 l0_7.length c0_7] 27 (0, 0)) (by (with_reducible repeat (first | refine blk_drewN ?_ _ | refine blk_drew ?_ | refine blk_alloc ?_ _)); exact BK138.out) hb)
                    have n3_ := Aside0.mk (below_step (by repeat (first | (with_reducible first | exact HB.out | apply below_alloc | apply pw_below_drewN | apply below_drew1 | refine below_set ?_ GE138.out) | exact HB.out)) hb)
                    clear HO145
                    clear BK138
                    clear HB
                    have HO145 := n0_
                    have HO148 := n1_
                    have BK138 := n2_
                    have HB := n3_
                    clear n0_ n1_ n2_ n3_
                    (try clear hb)
                    (try clear hb2)
                    (try clear hk)
                    (try clear hi)
                    (try clear ho0)
                    refine hK.out _ _ ⟨(blk_cell BK138.out 0).trans rfl, (blk_cell BK138.out 1).trans rfl, (blk_cell BK138.out 2).trans rfl, (blk_cell BK138.out 3).trans rfl, (blk_cell BK138.out 4).trans rfl, (blk_cell BK138.out 5).trans rfl, (blk_cell BK138.out 6).trans rfl, (blk_cell BK138.out 7).trans rfl⟩ (fun hHeld => ?_)
                    clear hK K
                    refine norm_ (a' := ?_) ?_ ?_
                    rotate_left
                    · show Act.put _ (some 56) _ = _
                      simp only [Act.put, List.setIfInBounds_toArray, List.set_cons_zero, List.set_cons_succ, i64_w, i32_w]
                      rfl
                    refine one_ (i := 5) (N := some 59) #[true, true, true, true, true, true, false, false, true] rfl rfl (one_of HT_.out (by kernel_rfl)) (by decide) (fun K hK => ?_)
                    refine Kd.R_lit_step Kd.string _ 9 ?hg (N := 59) ?hd (xs := ([a0_0] : List ByteArray)) (inner := [.string a0_0]) (ok := fun _ => True) (okp := fun _ => True) ?hr ?hp (fun _ hk => hk) trivial (Below.refl _ _) (Nat.le_refl _) (by simp) ?_; (case hd => rfl); (case hg => rfl); (case hr => first | (go_simp; done) | (go_simp; rfl)); (case hp => exact (Reps.one (show Kd.M Kd.string _ _ _ a0_0 [.string a0_0] from rfl) (Reps.none _ _)))
                    intro v150 w32 ho33 hb hg_ hnew_
                    clear hg_ hnew_
                    (first | rw [← Ny149.out] at ho33 | (simp only [Int.reduceToNat] at ho33; rw [← Ny149.out] at ho33))
                    have n0_ := Aside0.mk (Kd.S_below (by (with_reducible repeat (first | apply Kd.S_alloc | apply Kd.S_drewN | apply Kd.S_drew)); exact HO145.out) hb)
                    have n1_ := Aside0.mk (Kd.R_elder' (by (with_reducible repeat (first | apply Kd.R_alloc | apply Kd.R_drewN | apply Kd.R_drew)); exact HO148.out) (Kd.R_base ho33) hb)
                    have n2_ := Aside0.mk (Kd.R_lower (Kd.R_new' ho33 (Kd.R_lt (by (with_reducible repeat (first | apply Kd.R_alloc | apply Kd.R_drewN | apply Kd.R_drew)); exact HO148.out))) (below_size (by repeat (first | (with_reducible first | exact HB.out | apply below_alloc | apply pw_below_drewN | apply below_drew1 | refine below_set ?_ GE138.out) | exact HB.out))))
                    have n3_ := Aside0.mk (blk_below (g := gb138) (o := .cells #[.string a0_0, .int .i64 a0_1, .int .i64 a0_2, .slice A0_3 l0_3.length c0_3, .slice A0_4 l0_4.length c0_4, .slice A0_5 l0_5.length c0_5, .slice A0_6 l0_6.length c0_6, .slice A0_7 l0_7.length c0_7] 27 (0, 0)) (by (with_reducible repeat (first | refine blk_drewN ?_ _ | refine blk_drew ?_ | refine blk_alloc ?_ _)); exact BK138.out) hb)
                    have n4_ := Aside0.mk (below_step (by repeat (first | (with_reducible first | exact HB.out | apply below_alloc | apply pw_below_drewN | apply below_drew1 | refine below_set ?_ GE138.out) | exact HB.out)) hb)
                    clear HO145
                    clear HO148
                    clear BK138
                    clear HB
                    have HO145 := n0_
                    have HO148 := n1_
                    have HO151 := n2_
                    have BK138 := n3_
                    have HB := n4_
                    clear n0_ n1_ n2_ n3_ n4_
                    clear hb ho33
                    refine hK.out _ _ ⟨(blk_cell BK138.out 0).trans rfl, (blk_cell BK138.out 1).trans rfl, (blk_cell BK138.out 2).trans rfl, (blk_cell BK138.out 3).trans rfl, (blk_cell BK138.out 4).trans rfl, (blk_cell BK138.out 5).trans rfl, (blk_cell BK138.out 6).trans rfl, (blk_cell BK138.out 7).trans rfl⟩ (fun hHeld => ?_)
                    clear hK K
                    refine norm_ (a' := ?_) ?_ ?_
                    rotate_left
                    · show Act.put _ (some 59) _ = _
                      simp only [Act.put, List.setIfInBounds_toArray, List.set_cons_zero, List.set_cons_succ, i64_w, i32_w]
                      rfl
                    exact norm_ (by simp only [putAll, Act.put, List.setIfInBounds_toArray, List.set_cons_zero, List.set_cons_succ]) (hCont (v147, v150) _ ⟨hHeld, (by (with_reducible repeat (first | apply Kd.S_alloc | apply Kd.S_drewN | apply Kd.S_drew)); exact HO145.out), (by (with_reducible repeat (first | apply Kd.R_alloc | apply Kd.R_drewN | apply Kd.R_drew)); exact Kd.R_mono HO148.out (fun _ hk => hk.2)), (by (with_reducible repeat (first | apply Kd.R_alloc | apply Kd.R_drewN | apply Kd.R_drew)); exact Kd.R_mono HO151.out (fun _ hk => hk.2)), (by (with_reducible repeat (first | refine blk_drewN ?_ _ | refine blk_drew ?_ | refine blk_alloc ?_ _)); exact BK138.out), (by repeat (first | (with_reducible first | exact HB.out | apply below_alloc | apply pw_below_drewN | apply below_drew1 | refine below_set ?_ GE138.out) | exact HB.out))⟩)
                  · skip
                    refine Kd.R_lit_step Kd.string _ 9 ?hg (N := 59) ?hd (xs := ([a0_0] : List ByteArray)) (inner := [.string a0_0]) (ok := fun _ => True) (okp := fun _ => True) ?hr ?hp (fun _ hk => hk) trivial (Below.refl _ _) (Nat.le_refl _) (by simp) ?_; (case hd => rfl); (case hg => rfl); (case hr => first | (go_simp; done) | (go_simp; rfl)); (case hp => exact (Reps.one (show Kd.M Kd.string _ _ _ a0_0 [.string a0_0] from rfl) (Reps.none _ _)))
                    intro v150 w31 ho32 hb hg_ hnew_
                    clear hg_ hnew_
                    (first | rw [← Ny149.out] at ho32 | (simp only [Int.reduceToNat] at ho32; rw [← Ny149.out] at ho32))
                    have n0_ := Aside0.mk (Kd.S_below (by (with_reducible repeat (first | apply Kd.S_alloc | apply Kd.S_drewN | apply Kd.S_drew)); exact HO145.out) hb)
                    have n1_ := Aside0.mk (Kd.R_lower ho32 (below_size (by repeat (first | (with_reducible first | exact HB.out | apply below_alloc | apply pw_below_drewN | apply below_drew1 | refine below_set ?_ GE138.out) | exact HB.out))))
                    have n2_ := Aside0.mk (blk_below (g := gb138) (o := .cells #[.string a0_0, .int .i64 a0_1, .int .i64 a0_2, .slice A0_3 l0_3.length c0_3, .slice A0_4 l0_4.length c0_4, .slice A0_5 l0_5.length c0_5, .slice A0_6 l0_6.length c0_6, .slice A0_7 l0_7.length c0_7] 27 (0, 0)) (by (with_reducible repeat (first | refine blk_drewN ?_ _ | refine blk_drew ?_ | refine blk_alloc ?_ _)); exact BK138.out) hb)
                    have n3_ := Aside0.mk (below_step (by repeat (first | (with_reducible first | exact HB.out | apply below_alloc | apply pw_below_drewN | apply below_drew1 | refine below_set ?_ GE138.out) | exact HB.out)) hb)
                    clear HO145
                    clear BK138
                    clear HB
                    have HO145 := n0_
                    have HO151 := n1_
                    have BK138 := n2_
                    have HB := n3_
                    clear n0_ n1_ n2_ n3_
                    clear hb ho32
                    refine hK.out _ _ ⟨(blk_cell BK138.out 0).trans rfl, (blk_cell BK138.out 1).trans rfl, (blk_cell BK138.out 2).trans rfl, (blk_cell BK138.out 3).trans rfl, (blk_cell BK138.out 4).trans rfl, (blk_cell BK138.out 5).trans rfl, (blk_cell BK138.out 6).trans rfl, (blk_cell BK138.out 7).trans rfl⟩ (fun hHeld => ?_)
                    clear hK K
                    refine norm_ (a' := ?_) ?_ ?_
                    rotate_left
                    · show Act.put _ (some 59) _ = _
                      simp only [Act.put, List.setIfInBounds_toArray, List.set_cons_zero, List.set_cons_succ, i64_w, i32_w]
                      rfl
                    refine one_ (i := 2) (N := some 56) #[true, true, true, true, true, true, false, false, true] rfl rfl (one_of HT_.out (by kernel_rfl)) (by decide) (fun K hK => ?_)
                    refine goes_ Tryd.func35 (by kernel_rfl) rfl #[.slice A0_7 l0_7.length c0_7] (by rfl) rfl rfl (by (try simp only [List.map_toArray, List.map_cons, List.map_nil]); first | done | rfl | (simp only [List.length_drop, List.length_take]; rfl)) ?_
                    with_reducible refine (slices_Clone_string_string.calls _ _ l0_7 t146 _ ?side1 ?side2 A25.out).mono ?_
                    (case side1 => repeat (first | exact (Kd.C_below HR0_7.out HB.out) | (with_reducible refine Kd.C_alloc ?_ _) | (with_reducible refine Kd.C_drewN ?_ _) | (with_reducible refine Kd.C_drew ?_)))
                    (case side2 => exact HC0_7.out)
                    rintro e w33 ⟨v147, rfl, ho0, hb⟩
                    refine ⟨_, rfl, ?_⟩
                    have n0_ := Aside0.mk (Kd.S_below (by (with_reducible repeat (first | apply Kd.S_alloc | apply Kd.S_drewN | apply Kd.S_drew)); exact HO145.out) hb)
                    have n1_ := Aside0.mk (Kd.R_elder' (by (with_reducible repeat (first | apply Kd.R_alloc | apply Kd.R_drewN | apply Kd.R_drew)); exact HO151.out) (Kd.R_base ho0) hb)
                    have n2_ := Aside0.mk (Kd.R_lower (Kd.R_new' ho0 (Kd.R_lt (by (with_reducible repeat (first | apply Kd.R_alloc | apply Kd.R_drewN | apply Kd.R_drew)); exact HO151.out))) (below_size (by repeat (first | (with_reducible first | exact HB.out | apply below_alloc | apply pw_below_drewN | apply below_drew1 | refine below_set ?_ GE138.out) | exact HB.out))))
                    have n3_ := Aside0.mk (blk_below (g := gb138) (o := .cells #[.string a0_0, .int .i64 a0_1, .int .i64 a0_2, .slice A0_3 l0_3.length c0_3, .slice A0_4 l0_4.length c0_4, .slice A0_5 l0_5.length c0_5, .slice A0_6 l0_6.length c0_6, .slice A0_7 l0_7.length c0_7] 27 (0, 0)) (by (with_reducible repeat (first | refine blk_drewN ?_ _ | refine blk_drew ?_ | refine blk_alloc ?_ _)); exact BK138.out) hb)
                    have n4_ := Aside0.mk (below_step (by repeat (first | (with_reducible first | exact HB.out | apply below_alloc | apply pw_below_drewN | apply below_drew1 | refine below_set ?_ GE138.out) | exact HB.out)) hb)
                    clear HO145
                    clear HO151
                    clear BK138
                    clear HB
                    have HO145 := n0_
                    have HO151 := n1_
                    have HO148 := n2_
                    have BK138 := n3_
                    have HB := n4_
                    clear n0_ n1_ n2_ n3_ n4_
                    (try clear hb)
                    (try clear hb2)
                    (try clear hk)
                    (try clear hi)
                    (try clear ho0)
                    refine hK.out _ _ ⟨(blk_cell BK138.out 0).trans rfl, (blk_cell BK138.out 1).trans rfl, (blk_cell BK138.out 2).trans rfl, (blk_cell BK138.out 3).trans rfl, (blk_cell BK138.out 4).trans rfl, (blk_cell BK138.out 5).trans rfl, (blk_cell BK138.out 6).trans rfl, (blk_cell BK138.out 7).trans rfl⟩ (fun hHeld => ?_)
                    clear hK K
                    refine norm_ (a' := ?_) ?_ ?_
                    rotate_left
                    · show Act.put _ (some 56) _ = _
                      simp only [Act.put, List.setIfInBounds_toArray, List.set_cons_zero, List.set_cons_succ, i64_w, i32_w]
                      rfl
                    exact norm_ (by simp only [putAll, Act.put, List.setIfInBounds_toArray, List.set_cons_zero, List.set_cons_succ]) (hCont (v147, v150) _ ⟨hHeld, (by (with_reducible repeat (first | apply Kd.S_alloc | apply Kd.S_drewN | apply Kd.S_drew)); exact HO145.out), (by (with_reducible repeat (first | apply Kd.R_alloc | apply Kd.R_drewN | apply Kd.R_drew)); exact Kd.R_mono HO148.out (fun _ hk => hk.2)), (by (with_reducible repeat (first | apply Kd.R_alloc | apply Kd.R_drewN | apply Kd.R_drew)); exact Kd.R_mono HO151.out (fun _ hk => hk.2)), (by (with_reducible repeat (first | refine blk_drewN ?_ _ | refine blk_drew ?_ | refine blk_alloc ?_ _)); exact BK138.out), (by repeat (first | (with_reducible first | exact HB.out | apply below_alloc | apply pw_below_drewN | apply below_drew1 | refine below_set ?_ GE138.out) | exact HB.out))⟩)
                rintro ⟨v147, v150⟩ w34 ⟨hS_, h0_, h1_, h2_, h3_, h4_⟩
                have n0_ : Aside0 (Kd.S k93 93 w34 w.heap.size (fun _ => True) (.slice Ao29 t143.length co29) t143) := ⟨h0_⟩
                have n1_ : Aside0 (Kd.R Kd.string 9 w34 w.heap.size (fun k_ => some k_ ≠ (v150 : Value).ownBlock) v147 t146) := ⟨h1_⟩
                have n2_ : Aside0 (Kd.R Kd.string 9 w34 w.heap.size (fun k_ => some k_ ≠ (v147 : Value).ownBlock) v150 y149) := ⟨h2_⟩
                have n3_ : Aside0 (w34.heap[gb138]? = some (.cells #[.string a0_0, .int .i64 a0_1, .int .i64 a0_2, .slice A0_3 l0_3.length c0_3, .slice A0_4 l0_4.length c0_4, .slice A0_5 l0_5.length c0_5, .slice A0_6 l0_6.length c0_6, .slice A0_7 l0_7.length c0_7] 27 (0, 0))) := ⟨h3_⟩
                have n4_ : Aside0 (Below w.heap.size w w34) := ⟨h4_⟩
                clear HO145
                clear BK138
                clear HB
                clear h0_ h1_ h2_ h3_ h4_
                have HO145 := n0_
                have HO148 := n1_
                have HO151 := n2_
                have BK138 := n3_
                have HB := n4_
                clear n0_ n1_ n2_ n3_ n4_
                have hHeld : w34.cell? ⟨gb138, 0, none⟩ = some (.string a0_0) ∧ w34.cell? ⟨gb138, 1, none⟩ = some (.int .i64 a0_1) ∧ w34.cell? ⟨gb138, 2, none⟩ = some (.int .i64 a0_2) ∧ w34.cell? ⟨gb138, 3, none⟩ = some (.slice A0_3 l0_3.length c0_3) ∧ w34.cell? ⟨gb138, 4, none⟩ = some (.slice A0_4 l0_4.length c0_4) ∧ w34.cell? ⟨gb138, 5, none⟩ = some (.slice A0_5 l0_5.length c0_5) ∧ w34.cell? ⟨gb138, 6, none⟩ = some (.slice A0_6 l0_6.length c0_6) ∧ w34.cell? ⟨gb138, 7, none⟩ = some (.slice A0_7 l0_7.length c0_7) := hS_
                obtain ⟨Ao36, co36, eo36⟩ := Kd.R_slice HO151.out
                (first | subst eo36 | (injection eo36 with f1_ f2_ f3_; have f4_ := f1_.symm; have f5_ := f3_.symm; clear f1_ f2_ f3_; subst f4_; subst f5_))
                refine norm_ (a' := ?_) ?_ ?_
                rotate_left
                · simp only [putAll, Act.put, List.setIfInBounds_toArray, List.set_cons_zero, List.set_cons_succ]
                  rfl
                refine one_ (i := 6) (N := some 60) #[true, true, true, true, true, true, true, false, true] rfl rfl (one_of HT_.out (by kernel_rfl)) (by decide) (fun K hK => ?_)
                refine Kd.R_append_rows_step Kd.string (w0 := w) w.heap.size (by rfl) (.tmp 56) (.tmp 59) 25 9 (.string ⟨#[]⟩) 16 rfl Tryd.underlying25 info9 rfl (by decide) (by omega) v147 t146 y149 _ _ _ (fun k_ => some k_ ≠ (.slice Ao36 y149.length co36 : Value).ownBlock) (fun _ => False) rfl rfl ?aO ?aR (fun _ _ h => h) (fun _ h => h.elim) ?aF ?aB ?aS ?aL ?_
                (case aR => repeat (first | exact (Kd.R_reads' HO151.out).2.2 | (with_reducible refine Kd.C_alloc ?_ _) | (with_reducible refine Kd.C_drewN ?_ _) | (with_reducible refine Kd.C_drew ?_)))
                (case aB => exact (by repeat (first | (with_reducible first | exact HB.out | apply below_alloc | apply pw_below_drewN | apply below_drew1 | refine below_set ?_ GE138.out) | exact HB.out)))
                (case aF => exact (fun k_ hk => Kd.fresh' (Kd.R_lt (by (with_reducible repeat (first | apply Kd.R_alloc | apply Kd.R_drewN | apply Kd.R_drew)); exact HO151.out)) k_ hk))
                (case aO => exact (by (with_reducible repeat (first | apply Kd.R_alloc | apply Kd.R_drewN | apply Kd.R_drew)); exact HO148.out))
                (case aS => exact (below_size (by repeat (first | (with_reducible first | exact HB.out | apply below_alloc | apply pw_below_drewN | apply below_drew1 | refine below_set ?_ GE138.out) | exact HB.out))))
                (case aL => have := LMc26.out; omega)
                intro v153 w35 ho hb hg hat
                rw [← Ny152.out] at ho
                have n0_ := Aside0.mk (blk_grown (g := gb138) (o := .cells #[.string a0_0, .int .i64 a0_1, .int .i64 a0_2, .slice A0_3 l0_3.length c0_3, .slice A0_4 l0_4.length c0_4, .slice A0_5 l0_5.length c0_5, .slice A0_6 l0_6.length c0_6, .slice A0_7 l0_7.length c0_7] 27 (0, 0)) (by (with_reducible repeat (first | refine blk_drewN ?_ _ | refine blk_drew ?_ | refine blk_alloc ?_ _)); exact BK138.out) hg (Kd.R_ne HO148.out BK138.out (by decide)))
                have n1_ := Aside0.mk (Kd.S_over' (by (with_reducible repeat (first | apply Kd.S_alloc | apply Kd.S_drewN | apply Kd.S_drew)); exact HO145.out) (Kd.R_typed (by (with_reducible repeat (first | apply Kd.R_alloc | apply Kd.R_drewN | apply Kd.R_drew)); exact HO148.out)) (by decide) hg)
                have n2_ := Aside0.mk (Kd.R_after (ok := (fun _ => True)) (by (with_reducible repeat (first | apply Kd.R_alloc | apply Kd.R_drewN | apply Kd.R_drew)); exact Kd.R_mono HO151.out (fun _ hk => ⟨trivial, hk⟩)) hg hat)
                have n3_ := Aside0.mk (hb)
                have n4_ := Aside0.mk (ho)
                clear BK138
                clear HO145
                clear HO151
                clear HB
                clear HO148
                have BK138 := n0_
                have HO145 := n1_
                have HO151 := n2_
                have HB := n3_
                have HO154 := n4_
                clear n0_ n1_ n2_ n3_ n4_
                clear ho hb hg hat
                obtain ⟨Ao37, co37, eo37⟩ := Kd.R_slice HO154.out
                (first | subst eo37 | (injection eo37 with f1_ f2_ f3_; have f4_ := f1_.symm; have f5_ := f3_.symm; clear f1_ f2_ f3_; subst f4_; subst f5_))
                refine hK.out _ _ ⟨(blk_cell BK138.out 0).trans rfl, (blk_cell BK138.out 1).trans rfl, (blk_cell BK138.out 2).trans rfl, (blk_cell BK138.out 3).trans rfl, (blk_cell BK138.out 4).trans rfl, (blk_cell BK138.out 5).trans rfl, (blk_cell BK138.out 6).trans rfl, (blk_cell BK138.out 7).trans rfl⟩ (fun hHeld => ?_)
                clear hK K
                refine norm_ (a' := ?_) ?_ ?_
                rotate_left
                · show Act.put _ (some 60) _ = _
                  simp only [Act.put, List.setIfInBounds_toArray, List.set_cons_zero, List.set_cons_succ, i64_w, i32_w]
                  rfl
                refine pure_ (i := 7) (N := some 61) (v := ?_) (a' := ?_) #[true, true, true, true, true, true, true, true, true] rfl rfl (any_of HT_.out (by kernel_rfl)) (fun _ _ _ h => h) (Or.inl ⟨by rfl, ?_⟩) ?_ ?_
                rotate_left
                · intro w'
                  go_simp
                  with_reducible rfl
                rotate_left
                · simp only [Act.put, List.setIfInBounds_toArray, List.set_cons_zero, List.set_cons_succ, i64_w, i32_w]
                  rfl
                refine done_ (done_of HT_.out (by kernel_rfl)) ?_
                try go_wp2
                go_loopg [62] k1 (fun kq v62 w' => ∃ (x62_2 : Int), v62 = .int .i64 x62_2 ∧ Aside0 (page_Check.l1 kq y152 (y152.length : Int) x62_2 = some r) ∧ Aside0 (kq ≤ k1) ∧ Aside0 (Kd.R Kd.string 9 w' w.heap.size (fun _ => True) (.slice Ao37 y152.length co37) y152) ∧ Aside0 (w'.heap[gb138]? = some (.cells #[.string a0_0, .int .i64 a0_1, .int .i64 a0_2, (.slice A0_3 l0_3.length c0_3), (.slice A0_4 l0_4.length c0_4), (.slice A0_5 l0_5.length c0_5), (.slice A0_6 l0_6.length c0_6), (.slice A0_7 l0_7.length c0_7)] 27 (0, 0))) ∧ Aside0 (Below w.heap.size w w'))
                case atStart => exact ⟨(0), (by first | rfl | (simp; done) | (simp [*]; done)), H', ⟨Nat.le_refl _⟩, ⟨by (with_reducible repeat (first | apply Kd.R_alloc | apply Kd.R_drewN | apply Kd.R_drew)); exact Kd.R_mono HO154.out (fun _ hk => trivial)⟩, ⟨by (with_reducible repeat (first | refine blk_drewN ?_ _ | refine blk_drew ?_ | refine blk_alloc ?_ _)); exact BK138.out⟩, ⟨by repeat (first | (with_reducible first | exact HB.out | apply below_alloc | apply pw_below_drewN | apply below_drew1 | refine below_set ?_ GE138.out) | exact HB.out)⟩⟩
                case round =>
                  clear H'
                  try clear c1
                  try clear p1
                  try clear q1
                  try clear hx1
                  try clear c2
                  try clear p2
                  try clear c3
                  try clear p6
                  try clear c9
                  try clear c9b0
                  try clear c10
                  try clear c10b0
                  try clear c11
                  try clear c11b0
                  try clear c12
                  try clear c12b0
                  try clear c12b1
                  try clear c13
                  try clear c13b0
                  try clear p14
                  try clear q14
                  try clear hx14
                  try clear c15
                  try clear c18
                  try clear c24
                  try clear c24b0
                  try clear c24b1
                  try clear c24b2
                  try clear c26
                  try clear c34
                  try clear c35
                  try clear hcz16_0
                  try clear hcz16_1
                  try clear hcz16_2
                  try clear hcz16_3
                  try clear hcz16_4
                  try clear hcz16_5
                  try clear hcz16_6
                  try clear hcz16_7
                  try clear hcz19_0
                  try clear hcz19_1
                  try clear hcz19_2
                  try clear hcz19_3
                  try clear hcz19_4
                  try clear hcz19_5
                  try clear hcz19_6
                  try clear hcz19_7
                  try clear hcz21_0
                  try clear hcz21_1
                  try clear hcz21_2
                  try clear hcz21_3
                  try clear hcz21_4
                  try clear hcz21_5
                  try clear hcz21_6
                  try clear hcz21_7
                  try clear hcz6_6
                  try clear hcz6_7
                  try clear hcz8_0
                  try clear hcz8_1
                  try clear hcz8_2
                  try clear hcz8_3
                  try clear hcz8_4
                  try clear hcz8_5
                  try clear hcz8_6
                  try clear hcz8_7
                  try clear hfz16_0
                  try clear hfz16_1
                  try clear hfz16_2
                  try clear hfz16_3
                  try clear hfz16_4
                  try clear hfz16_5
                  try clear hfz16_6
                  try clear hfz16_7
                  try clear hfz19_0
                  try clear hfz19_1
                  try clear hfz19_2
                  try clear hfz19_3
                  try clear hfz19_4
                  try clear hfz19_5
                  try clear hfz19_6
                  try clear hfz19_7
                  try clear hfz21_0
                  try clear hfz21_1
                  try clear hfz21_2
                  try clear hfz21_3
                  try clear hfz21_4
                  try clear hfz21_5
                  try clear hfz21_6
                  try clear hfz21_7
                  try clear hfz6_0
                  try clear hfz6_1
                  try clear hfz6_2
                  try clear hfz6_3
                  try clear hfz6_4
                  try clear hfz6_5
                  try clear hfz6_6
                  try clear hfz6_7
                  try clear hfz8_0
                  try clear hfz8_1
                  try clear hfz8_2
                  try clear hfz8_3
                  try clear hfz8_4
                  try clear hfz8_5
                  try clear hfz8_6
                  try clear hfz8_7
                  try clear hx140_0
                  try clear hx141_0
                  try clear p140
                  try clear p141
                  try clear q140
                  try clear q141
                  obtain ⟨x62_2, rfl, HA, HK2, HO_60, BK138, HB⟩ := hrel
                  cases gk with
                  | zero => exact absurd HA.out (by simp [page_Check.l1])
                  | succ k2 =>
                    have H := HA.out
                    clear HA
                    simp only [page_Check.l1] at H
                    by_cases c38 : x62_2 < (y152.length : Int)
                    · rw [if_pos c38] at H
                      have c38b0 : decide (x62_2 < (y152.length : Int)) = true := decide_eq_true c38
                      clear c38
                      by_cases c39 : 0 ≤ x62_2
                      · rw [if_pos c39] at H
                        have c39b0 : decide (0 ≤ x62_2) = true := decide_eq_true c39
                        clear c39
                        by_cases c40 : x62_2 < (y152.length : Int)
                        · rw [if_pos c40] at H
                          have c40b0 : decide (x62_2 < (y152.length : Int)) = true := decide_eq_true c40
                          clear c40
                          replace H := Option.bind_eq_some_iff.mp H
                          obtain ⟨t156, A410, H⟩ := H
                          replace H : (if t156 = true then (page_Check.l1 k2 y152 (y152.length : Int) (wrap64 (x62_2 + 1))) else (some 221)) = some r := H
                          have A41 := Aside0.mk A410
                          clear A410
                          by_cases c42 : t156 = true
                          · subst c42
                            have H1 : (page_Check.l1 k2 y152 (y152.length : Int) (wrap64 (x62_2 + 1))) = some r := by rw [if_pos rfl] at H; exact H
                            clear H
                            have H := H1
                            clear H1
                            have H' := Aside0.mk H
                            clear H
                            have p155 : 0 ≤ (x62_2 : Int) := of_decide_eq_true (by first | (with_reducible assumption) | assumption)
                            have q155 : x62_2 < (y152.length : Int) := of_decide_eq_true (by first | (with_reducible assumption) | assumption)
                            obtain ⟨ad155, e155, hx155_0⟩ := Kd.at_string (Kd.R_reads' HO_60.out).2.2 x62_2 p155 q155
                            cases e155
                            replace p155 := eq_true p155
                            replace q155 := eq_true q155
                            go_wp2_with (first | ((with_reducible refine gate_callee (f := 36) rfl ?_); refine goesL_ (some 67) rfl rfl Tryd.func36 (by kernel_rfl) rfl #[.string (rdOf ByteArray.empty y152 x62_2)] rfl (by (try simp only [List.map_toArray, List.map_cons, List.map_nil]); first | done | rfl | (simp only [List.length_drop, List.length_take]; rfl)) ?_; (with_reducible refine (page_line.calls (rdOf ByteArray.empty y152 x62_2) true _ ?side1 A41.out).mono ?_); (case side1 => exact tabs_below HT.out (by repeat (first | (with_reducible first | exact HB.out | apply below_alloc | apply pw_below_drewN | apply below_drew1 | refine below_set ?_ GE138.out) | exact HB.out))); rintro e w43 ⟨rfl, hb⟩; refine ⟨_, rfl, ?_⟩; have n0_ := Aside0.mk (Kd.R_below (by (with_reducible repeat (first | apply Kd.R_alloc | apply Kd.R_drewN | apply Kd.R_drew)); exact HO_60.out) hb); have n1_ := Aside0.mk (blk_below (g := gb138) (o := .cells #[.string a0_0, .int .i64 a0_1, .int .i64 a0_2, .slice A0_3 l0_3.length c0_3, .slice A0_4 l0_4.length c0_4, .slice A0_5 l0_5.length c0_5, .slice A0_6 l0_6.length c0_6, .slice A0_7 l0_7.length c0_7] 27 (0, 0)) (by (with_reducible repeat (first | refine blk_drewN ?_ _ | refine blk_drew ?_ | refine blk_alloc ?_ _)); exact BK138.out) hb); have n2_ := Aside0.mk (below_step (by repeat (first | (with_reducible first | exact HB.out | apply below_alloc | apply pw_below_drewN | apply below_drew1 | refine below_set ?_ GE138.out) | exact HB.out)) hb); clear HO_60; clear BK138; clear HB; have HO_60 := n0_; have BK138 := n1_; have HB := n2_; clear n0_ n1_ n2_; (try clear hb); (try clear hb2); (try clear hk); (try clear hi)))
                            go_roundg k2
                            case measure => have := HK1.out; have := HK2.out; omega
                            case rel => exact ⟨(wrap64 (x62_2 + 1)), (by first | rfl | (simp; done) | (simp [*]; done)), H', ⟨by have := HK1.out; have := HK2.out; omega⟩, ⟨by (with_reducible repeat (first | apply Kd.R_alloc | apply Kd.R_drewN | apply Kd.R_drew)); exact HO_60.out⟩, ⟨by (with_reducible repeat (first | refine blk_drewN ?_ _ | refine blk_drew ?_ | refine blk_alloc ?_ _)); exact BK138.out⟩, ⟨by repeat (first | (with_reducible first | exact HB.out | apply below_alloc | apply pw_below_drewN | apply below_drew1 | refine below_set ?_ GE138.out) | exact HB.out)⟩⟩
                          · replace c42 := Bool.eq_false_iff.mpr c42
                            subst c42
                            have H1 : (some 221) = some r := by rw [if_neg (show ¬ (false = true) by decide)] at H; exact H
                            clear H
                            have H := H1
                            clear H1
                            obtain rfl := Option.some.inj H
                            have p155 : 0 ≤ (x62_2 : Int) := of_decide_eq_true (by first | (with_reducible assumption) | assumption)
                            have q155 : x62_2 < (y152.length : Int) := of_decide_eq_true (by first | (with_reducible assumption) | assumption)
                            obtain ⟨ad155, e155, hx155_0⟩ := Kd.at_string (Kd.R_reads' HO_60.out).2.2 x62_2 p155 q155
                            cases e155
                            replace p155 := eq_true p155
                            replace q155 := eq_true q155
                            go_wp2_with (first | ((with_reducible refine gate_callee (f := 36) rfl ?_); refine goesL_ (some 67) rfl rfl Tryd.func36 (by kernel_rfl) rfl #[.string (rdOf ByteArray.empty y152 x62_2)] rfl (by (try simp only [List.map_toArray, List.map_cons, List.map_nil]); first | done | rfl | (simp only [List.length_drop, List.length_take]; rfl)) ?_; (with_reducible refine (page_line.calls (rdOf ByteArray.empty y152 x62_2) false _ ?side1 A41.out).mono ?_); (case side1 => exact tabs_below HT.out (by repeat (first | (with_reducible first | exact HB.out | apply below_alloc | apply pw_below_drewN | apply below_drew1 | refine below_set ?_ GE138.out) | exact HB.out))); rintro e w44 ⟨rfl, hb⟩; refine ⟨_, rfl, ?_⟩; have n0_ := Aside0.mk (Kd.R_below (by (with_reducible repeat (first | apply Kd.R_alloc | apply Kd.R_drewN | apply Kd.R_drew)); exact HO_60.out) hb); have n1_ := Aside0.mk (blk_below (g := gb138) (o := .cells #[.string a0_0, .int .i64 a0_1, .int .i64 a0_2, .slice A0_3 l0_3.length c0_3, .slice A0_4 l0_4.length c0_4, .slice A0_5 l0_5.length c0_5, .slice A0_6 l0_6.length c0_6, .slice A0_7 l0_7.length c0_7] 27 (0, 0)) (by (with_reducible repeat (first | refine blk_drewN ?_ _ | refine blk_drew ?_ | refine blk_alloc ?_ _)); exact BK138.out) hb); have n2_ := Aside0.mk (below_step (by repeat (first | (with_reducible first | exact HB.out | apply below_alloc | apply pw_below_drewN | apply below_drew1 | refine below_set ?_ GE138.out) | exact HB.out)) hb); clear HO_60; clear BK138; clear HB; have HO_60 := n0_; have BK138 := n1_; have HB := n2_; clear n0_ n1_ n2_; (try clear hb); (try clear hb2); (try clear hk); (try clear hi)))
                            go_ret
                            exact ⟨by first | rfl | (simp [errW_none, errW_some] <;> rfl) | (simp [*, errW_none, errW_some] <;> rfl) | (exfalso; contradiction), by repeat (first | (with_reducible first | exact HB.out | apply below_alloc | apply pw_below_drewN | apply below_drew1 | refine below_set ?_ GE138.out) | exact HB.out)⟩
                        · rw [if_neg c40] at H
                          exact absurd H (by simp)
                      · rw [if_neg c39] at H
                        exact absurd H (by simp)
                    · rw [if_neg c38] at H
                      have c38b0 : decide (x62_2 < (y152.length : Int)) = false := decide_eq_false c38
                      clear c38
                      obtain rfl := Option.some.inj H
                      go_wp2
                      go_ret
                      exact ⟨by first | rfl | (simp [errW_none, errW_some] <;> rfl) | (simp [*, errW_none, errW_some] <;> rfl) | (exfalso; contradiction), by repeat (first | (with_reducible first | exact HB.out | apply below_alloc | apply pw_below_drewN | apply below_drew1 | refine below_set ?_ GE138.out) | exact HB.out)⟩
              · rw [if_neg c26] at H
                exact absurd H (by simp)
            · rw [if_neg c24] at H
              have c24b0 : ((l0_7.length : Int) == (t143.length : Int)) = false := beq_eq_false_iff_ne.mpr c24
              have c24b1 : ((l0_7.length : Int) != (t143.length : Int)) = true := bne_iff_ne.mpr c24
              have c24b2 : (l0_7.length == t143.length) = false := by first | simpa using c24 | (simp at c24 ⊢; omega)
              obtain rfl := Option.some.inj H
              try go_wp2
              have n0_ := Aside0.mk (blk_drew BK138.out)
              have n1_ := Aside0.mk (below_drew1 HB.out)
              clear BK138
              clear HB
              have BK138 := n0_
              have HB := n1_
              clear n0_ n1_
              refine start_ (n := 8) (S := fun w' => w'.cell? ⟨gb138, 0, none⟩ = some (.string a0_0) ∧ w'.cell? ⟨gb138, 1, none⟩ = some (.int .i64 a0_1) ∧ w'.cell? ⟨gb138, 2, none⟩ = some (.int .i64 a0_2) ∧ w'.cell? ⟨gb138, 3, none⟩ = some (.slice A0_3 l0_3.length c0_3) ∧ w'.cell? ⟨gb138, 4, none⟩ = some (.slice A0_4 l0_4.length c0_4) ∧ w'.cell? ⟨gb138, 5, none⟩ = some (.slice A0_5 l0_5.length c0_5) ∧ w'.cell? ⟨gb138, 6, none⟩ = some (.slice A0_6 l0_6.length c0_6) ∧ w'.cell? ⟨gb138, 7, none⟩ = some (.slice A0_7 l0_7.length c0_7)) (ds := []) #[false, false, false, false, false, false, false, false] (by kernel_rfl) rfl rfl ⟨(blk_cell BK138.out 0).trans rfl, (blk_cell BK138.out 1).trans rfl, (blk_cell BK138.out 2).trans rfl, (blk_cell BK138.out 3).trans rfl, (blk_cell BK138.out 4).trans rfl, (blk_cell BK138.out 5).trans rfl, (blk_cell BK138.out 6).trans rfl, (blk_cell BK138.out 7).trans rfl⟩ (fun hHeld => ?_); refine with_tabW page_Check.tab12 page_Check.bits12 (fun HT_ HW_ => ?_)
              generalize wr.drew = w45 at BK138 HB hHeld ⊢
              refine pure_ (i := 0) (N := some 46) (v := ?_) (a' := ?_) #[true, false, false, false, false, false, false, false] rfl rfl (any_of HT_.out (by kernel_rfl)) (fun _ _ _ h => h) (Or.inl ⟨by rfl, ?_⟩) ?_ ?_
              rotate_left
              · intro w'
                go_simp
                with_reducible rfl
              rotate_left
              · simp only [Act.put, List.setIfInBounds_toArray, List.set_cons_zero, List.set_cons_succ, i64_w, i32_w]
                rfl
              refine pure_ (i := 3) (N := some 49) (v := ?_) (a' := ?_) #[true, false, false, true, false, false, false, false] rfl rfl (any_of HT_.out (by kernel_rfl)) (fun _ _ _ h => h) (Or.inl ⟨by rfl, ?_⟩) ?_ ?_
              rotate_left
              · intro w'
                go_simp
                with_reducible rfl
              rotate_left
              · simp only [Act.put, List.setIfInBounds_toArray, List.set_cons_zero, List.set_cons_succ, i64_w, i32_w]
                rfl
              refine take_ (i := 1) (N := some 47) (v := ?_) (a' := ?_) #[true, true, false, true, false, false, false, false] rfl rfl (take_ofW HT_.out HW_.out (by kernel_rfl)) (fun _ _ _ h => h) (Or.inl ⟨by rfl, ?_⟩) hHeld ?_ ?_
              rotate_left
              · rintro w' ⟨s0, s1, s2, s3, s4, s5, s6, s7⟩
                go_simp
                with_reducible rfl
              rotate_left
              · simp only [Act.put, List.setIfInBounds_toArray, List.set_cons_zero, List.set_cons_succ, i64_w, i32_w]
                rfl
              refine pure_ (i := 2) (N := some 48) (v := ?_) (a' := ?_) #[true, true, true, true, false, false, false, false] rfl rfl (any_of HT_.out (by kernel_rfl)) (fun _ _ _ h => h) (Or.inl ⟨by rfl, ?_⟩) ?_ ?_
              rotate_left
              · intro w'
                go_simp
                with_reducible rfl
              rotate_left
              · simp only [Act.put, List.setIfInBounds_toArray, List.set_cons_zero, List.set_cons_succ, i64_w, i32_w]
                rfl
              refine take_ (i := 4) (N := some 50) (v := ?_) (a' := ?_) #[true, true, true, true, true, false, false, false] rfl rfl (take_ofW HT_.out HW_.out (by kernel_rfl)) (fun _ _ _ h => h) (Or.inl ⟨by rfl, ?_⟩) hHeld ?_ ?_
              rotate_left
              · rintro w' ⟨s0, s1, s2, s3, s4, s5, s6, s7⟩
                go_simp
                with_reducible rfl
              rotate_left
              · simp only [Act.put, List.setIfInBounds_toArray, List.set_cons_zero, List.set_cons_succ, i64_w, i32_w]
                rfl
              refine one_ (i := 5) (N := some 51) #[true, true, true, true, true, true, false, false] rfl rfl (one_of HT_.out (by kernel_rfl)) (by decide) (fun K hK => ?_)
              refine goes_ Tryd.func34 (by kernel_rfl) rfl #[.agg #[.int .i64 a0_1, .int .i64 a0_2, .slice A0_3 l0_3.length c0_3, .slice A0_4 l0_4.length c0_4, .slice A0_5 l0_5.length c0_5]] (by rfl) rfl rfl (by (try simp only [List.map_toArray, List.map_cons, List.map_nil]); first | done | rfl | (simp only [List.length_drop, List.length_take]; rfl)) ?_
              with_reducible refine (slots_List.calls a0_1 a0_2 _ _ l0_3 _ _ l0_4 _ _ l0_5 t143 _ ?side1 ?side2 ?side3 ?side4 ?side5 ?side6 A23.out).mono ?_
              (case side1 => repeat (first | exact (Kd.C_below HR0_3.out HB.out) | (with_reducible refine Kd.C_alloc ?_ _) | (with_reducible refine Kd.C_drewN ?_ _) | (with_reducible refine Kd.C_drew ?_)))
              (case side2 => exact HC0_3.out)
              (case side3 => repeat (first | exact (Kd.C_below HR0_4.out HB.out) | (with_reducible refine Kd.C_alloc ?_ _) | (with_reducible refine Kd.C_drewN ?_ _) | (with_reducible refine Kd.C_drew ?_)))
              (case side4 => exact HC0_4.out)
              (case side5 => repeat (first | exact (Kd.C_below HR0_5.out HB.out) | (with_reducible refine Kd.C_alloc ?_ _) | (with_reducible refine Kd.C_drewN ?_ _) | (with_reducible refine Kd.C_drew ?_)))
              (case side6 => exact HC0_5.out)
              rintro e w46 ⟨v144, rfl, ho0, hb⟩
              refine ⟨_, rfl, ?_⟩
              have n0_ := Aside0.mk (Kd.S_lower ho0 (below_size (by repeat (first | (with_reducible first | exact HB.out | apply below_alloc | apply pw_below_drewN | apply below_drew1 | refine below_set ?_ GE138.out) | exact HB.out))))
              have n1_ := Aside0.mk (blk_below (g := gb138) (o := .cells #[.string a0_0, .int .i64 a0_1, .int .i64 a0_2, .slice A0_3 l0_3.length c0_3, .slice A0_4 l0_4.length c0_4, .slice A0_5 l0_5.length c0_5, .slice A0_6 l0_6.length c0_6, .slice A0_7 l0_7.length c0_7] 27 (0, 0)) (by (with_reducible repeat (first | refine blk_drewN ?_ _ | refine blk_drew ?_ | refine blk_alloc ?_ _)); exact BK138.out) hb)
              have n2_ := Aside0.mk (below_step (by repeat (first | (with_reducible first | exact HB.out | apply below_alloc | apply pw_below_drewN | apply below_drew1 | refine below_set ?_ GE138.out) | exact HB.out)) hb)
              clear BK138
              clear HB
              have HO145 := n0_
              have BK138 := n1_
              have HB := n2_
              clear n0_ n1_ n2_
              (try clear hb)
              (try clear hb2)
              (try clear hk)
              (try clear hi)
              (try clear ho0)
              obtain ⟨Ao47, co47, eo47⟩ := Kd.S_slice HO145.out
              (first | subst eo47 | (injection eo47 with f1_ f2_ f3_; have f4_ := f1_.symm; have f5_ := f3_.symm; clear f1_ f2_ f3_; subst f4_; subst f5_))
              refine hK.out _ _ ⟨(blk_cell BK138.out 0).trans rfl, (blk_cell BK138.out 1).trans rfl, (blk_cell BK138.out 2).trans rfl, (blk_cell BK138.out 3).trans rfl, (blk_cell BK138.out 4).trans rfl, (blk_cell BK138.out 5).trans rfl, (blk_cell BK138.out 6).trans rfl, (blk_cell BK138.out 7).trans rfl⟩ (fun hHeld => ?_)
              clear hK K
              refine norm_ (a' := ?_) ?_ ?_
              rotate_left
              · show Act.put _ (some 51) _ = _
                simp only [Act.put, List.setIfInBounds_toArray, List.set_cons_zero, List.set_cons_succ, i64_w, i32_w]
                rfl
              refine pure_ (i := 6) (N := some 52) (v := ?_) (a' := ?_) #[true, true, true, true, true, true, true, false] rfl rfl (any_of HT_.out (by kernel_rfl)) (fun _ _ _ h => h) (Or.inl ⟨by rfl, ?_⟩) ?_ ?_
              rotate_left
              · intro w'
                go_simp
                with_reducible rfl
              rotate_left
              · simp only [Act.put, List.setIfInBounds_toArray, List.set_cons_zero, List.set_cons_succ, i64_w, i32_w]
                rfl
              refine pure_ (i := 7) (N := some 53) (v := ?_) (a' := ?_) #[true, true, true, true, true, true, true, true] rfl rfl (any_of HT_.out (by kernel_rfl)) (fun _ _ _ h => h) (Or.inl ⟨by rfl, ?_⟩) ?_ ?_
              rotate_left
              · intro w'
                go_simp
                with_reducible rfl
              rotate_left
              · simp only [Act.put, List.setIfInBounds_toArray, List.set_cons_zero, List.set_cons_succ, i64_w, i32_w]
                rfl
              refine done_ (done_of HT_.out (by kernel_rfl)) ?_
              try go_wp2
              go_ret
              exact ⟨by first | rfl | (simp [errW_none, errW_some] <;> rfl) | (simp [*, errW_none, errW_some] <;> rfl) | (exfalso; contradiction), by repeat (first | (with_reducible first | exact HB.out | apply below_alloc | apply pw_below_drewN | apply below_drew1 | refine below_set ?_ GE138.out) | exact HB.out)⟩
    · rw [if_neg c4] at H
      have c4b0 : ((l0_6.length : Int) == (l0_3.length : Int)) = false := beq_eq_false_iff_ne.mpr c4
      have c4b1 : ((l0_6.length : Int) != (l0_3.length : Int)) = true := bne_iff_ne.mpr c4
      have c4b2 : (l0_6.length == l0_3.length) = false := by first | simpa using c4 | (simp at c4 ⊢; omega)
      obtain rfl := Option.some.inj H
      go_enter Tryd.func20, Tryd.ntmps20
      go_wp2_with (first | ((with_reducible refine gate_dst (N := 1) rfl ?_); refine box_event ?hg (N := 1) ?hd (cs := #[.string a0_0, .int .i64 a0_1, .int .i64 a0_2, .slice A0_3 l0_3.length c0_3, .slice A0_4 l0_4.length c0_4, .slice A0_5 l0_5.length c0_5, .slice A0_6 l0_6.length c0_6, .slice A0_7 l0_7.length c0_7]) (t := 27) ?hr ?_; (case hd => rfl); (case hg => rfl); (case hr => first | (go_simp; done) | (go_simp; rfl)); intro gb138 hg w48 hbox hb; have n0_ := Aside0.mk (below_step (by repeat (first | (with_reducible first | exact HB.out | apply below_alloc | apply pw_below_drewN | apply below_drew1) | exact HB.out)) hb); have n1_ := Aside0.mk (hbox); have n2_ := Aside0.mk ((by rw [hg]; exact (below_size (by repeat (first | (with_reducible first | exact HB.out | apply below_alloc | apply pw_below_drewN | apply below_drew1) | exact HB.out))) : w.heap.size ≤ gb138)); have n3_ := Aside0.mk ((by rw [hg]; exact (below_size (by repeat (first | (with_reducible first | exact HB.out | apply below_alloc | apply pw_below_drewN | apply below_drew1) | exact HB.out))) : w.heap.size ≤ gb138)); clear HB; have HB := n0_; have BK138 := n1_; have GW138 := n2_; have GE138 := n3_; clear n0_ n1_ n2_ n3_; clear hb hbox hg; have hcz49_0 : w48.cell? ⟨gb138, 0, none⟩ = some (.string a0_0) := (blk_cell BK138.out 0).trans rfl; have hcz49_1 : w48.cell? ⟨gb138, 1, none⟩ = some (.int .i64 a0_1) := (blk_cell BK138.out 1).trans rfl; have hcz49_2 : w48.cell? ⟨gb138, 2, none⟩ = some (.int .i64 a0_2) := (blk_cell BK138.out 2).trans rfl; have hcz49_3 : w48.cell? ⟨gb138, 3, none⟩ = some (.slice A0_3 l0_3.length c0_3) := (blk_cell BK138.out 3).trans rfl; have hcz49_4 : w48.cell? ⟨gb138, 4, none⟩ = some (.slice A0_4 l0_4.length c0_4) := (blk_cell BK138.out 4).trans rfl; have hcz49_5 : w48.cell? ⟨gb138, 5, none⟩ = some (.slice A0_5 l0_5.length c0_5) := (blk_cell BK138.out 5).trans rfl; have hcz49_6 : w48.cell? ⟨gb138, 6, none⟩ = some (.slice A0_6 l0_6.length c0_6) := (blk_cell BK138.out 6).trans rfl; have hcz49_7 : w48.cell? ⟨gb138, 7, none⟩ = some (.slice A0_7 l0_7.length c0_7) := (blk_cell BK138.out 7).trans rfl; have hfz49_0 := blk_frozen BK138.out 0; have hfz49_1 := blk_frozen BK138.out 1; have hfz49_2 := blk_frozen BK138.out 2; have hfz49_3 := blk_frozen BK138.out 3; have hfz49_4 := blk_frozen BK138.out 4; have hfz49_5 := blk_frozen BK138.out 5; have hfz49_6 := blk_frozen BK138.out 6; have hfz49_7 := blk_frozen BK138.out 7) | ((with_reducible refine gate_callee (f := 32) rfl ?_); refine goesL_ (some 10) rfl rfl Tryd.func32 (by kernel_rfl) rfl #[.agg #[.int .i64 a0_1, .int .i64 a0_2, .slice A0_3 l0_3.length c0_3, .slice A0_4 l0_4.length c0_4, .slice A0_5 l0_5.length c0_5]] rfl (by (try simp only [List.map_toArray, List.map_cons, List.map_nil]); first | done | rfl | (simp only [List.length_drop, List.length_take]; rfl)) ?_; (with_reducible refine (grid_Check.calls k a0_1 a0_2 _ _ l0_3 _ _ l0_4 _ _ l0_5 t139 _ ?side1 ?side2 ?side3 ?side4 ?side5 ?side6 A2.out).mono ?_); (case side1 => repeat (first | exact (Kd.C_below HR0_3.out HB.out) | (with_reducible refine Kd.C_alloc ?_ _) | (with_reducible refine Kd.C_drewN ?_ _) | (with_reducible refine Kd.C_drew ?_))); (case side2 => exact HC0_3.out); (case side3 => repeat (first | exact (Kd.C_below HR0_4.out HB.out) | (with_reducible refine Kd.C_alloc ?_ _) | (with_reducible refine Kd.C_drewN ?_ _) | (with_reducible refine Kd.C_drew ?_))); (case side4 => exact HC0_4.out); (case side5 => repeat (first | exact (Kd.C_below HR0_5.out HB.out) | (with_reducible refine Kd.C_alloc ?_ _) | (with_reducible refine Kd.C_drewN ?_ _) | (with_reducible refine Kd.C_drew ?_))); (case side6 => exact HC0_5.out); rintro e w50 ⟨rfl, hb⟩; refine ⟨_, rfl, ?_⟩; have n0_ := Aside0.mk (blk_below (g := gb138) (o := .cells #[.string a0_0, .int .i64 a0_1, .int .i64 a0_2, .slice A0_3 l0_3.length c0_3, .slice A0_4 l0_4.length c0_4, .slice A0_5 l0_5.length c0_5, .slice A0_6 l0_6.length c0_6, .slice A0_7 l0_7.length c0_7] 27 (0, 0)) (by (with_reducible repeat (first | refine blk_drewN ?_ _ | refine blk_drew ?_ | refine blk_alloc ?_ _)); exact BK138.out) hb); have n1_ := Aside0.mk (below_step (by repeat (first | (with_reducible first | exact HB.out | apply below_alloc | apply pw_below_drewN | apply below_drew1 | refine below_set ?_ GE138.out) | exact HB.out)) hb); clear BK138; clear HB; have BK138 := n0_; have HB := n1_; clear n0_ n1_; (try clear hb); (try clear hb2); (try clear hk); (try clear hi); have hcz51_0 : w50.cell? ⟨gb138, 0, none⟩ = some (.string a0_0) := (blk_cell BK138.out 0).trans rfl; have hcz51_1 : w50.cell? ⟨gb138, 1, none⟩ = some (.int .i64 a0_1) := (blk_cell BK138.out 1).trans rfl; have hcz51_2 : w50.cell? ⟨gb138, 2, none⟩ = some (.int .i64 a0_2) := (blk_cell BK138.out 2).trans rfl; have hcz51_3 : w50.cell? ⟨gb138, 3, none⟩ = some (.slice A0_3 l0_3.length c0_3) := (blk_cell BK138.out 3).trans rfl; have hcz51_4 : w50.cell? ⟨gb138, 4, none⟩ = some (.slice A0_4 l0_4.length c0_4) := (blk_cell BK138.out 4).trans rfl; have hcz51_5 : w50.cell? ⟨gb138, 5, none⟩ = some (.slice A0_5 l0_5.length c0_5) := (blk_cell BK138.out 5).trans rfl; have hcz51_6 : w50.cell? ⟨gb138, 6, none⟩ = some (.slice A0_6 l0_6.length c0_6) := (blk_cell BK138.out 6).trans rfl; have hcz51_7 : w50.cell? ⟨gb138, 7, none⟩ = some (.slice A0_7 l0_7.length c0_7) := (blk_cell BK138.out 7).trans rfl; have hfz51_0 := blk_frozen BK138.out 0; have hfz51_1 := blk_frozen BK138.out 1; have hfz51_2 := blk_frozen BK138.out 2; have hfz51_3 := blk_frozen BK138.out 3; have hfz51_4 := blk_frozen BK138.out 4; have hfz51_5 := blk_frozen BK138.out 5; have hfz51_6 := blk_frozen BK138.out 6; have hfz51_7 := blk_frozen BK138.out 7))
      go_ret
      exact ⟨by first | rfl | (simp [errW_none, errW_some] <;> rfl) | (simp [*, errW_none, errW_some] <;> rfl) | (exfalso; contradiction), by repeat (first | (with_reducible first | exact HB.out | apply below_alloc | apply pw_below_drewN | apply below_drew1 | refine below_set ?_ GE138.out) | exact HB.out)⟩
  · rw [if_neg c3] at H
    have c3b0 : (t139 == 0) = false := beq_eq_false_iff_ne.mpr c3
    have c3b1 : (t139 != 0) = true := bne_iff_ne.mpr c3
    obtain rfl := Option.some.inj H
    go_enter Tryd.func20, Tryd.ntmps20
    go_wp2_with (first | ((with_reducible refine gate_dst (N := 1) rfl ?_); refine box_event ?hg (N := 1) ?hd (cs := #[.string a0_0, .int .i64 a0_1, .int .i64 a0_2, .slice A0_3 l0_3.length c0_3, .slice A0_4 l0_4.length c0_4, .slice A0_5 l0_5.length c0_5, .slice A0_6 l0_6.length c0_6, .slice A0_7 l0_7.length c0_7]) (t := 27) ?hr ?_; (case hd => rfl); (case hg => rfl); (case hr => first | (go_simp; done) | (go_simp; rfl)); intro gb138 hg w52 hbox hb; have n0_ := Aside0.mk (below_step (by repeat (first | (with_reducible first | exact HB.out | apply below_alloc | apply pw_below_drewN | apply below_drew1) | exact HB.out)) hb); have n1_ := Aside0.mk (hbox); have n2_ := Aside0.mk ((by rw [hg]; exact (below_size (by repeat (first | (with_reducible first | exact HB.out | apply below_alloc | apply pw_below_drewN | apply below_drew1) | exact HB.out))) : w.heap.size ≤ gb138)); have n3_ := Aside0.mk ((by rw [hg]; exact (below_size (by repeat (first | (with_reducible first | exact HB.out | apply below_alloc | apply pw_below_drewN | apply below_drew1) | exact HB.out))) : w.heap.size ≤ gb138)); clear HB; have HB := n0_; have BK138 := n1_; have GW138 := n2_; have GE138 := n3_; clear n0_ n1_ n2_ n3_; clear hb hbox hg; have hcz53_0 : w52.cell? ⟨gb138, 0, none⟩ = some (.string a0_0) := (blk_cell BK138.out 0).trans rfl; have hcz53_1 : w52.cell? ⟨gb138, 1, none⟩ = some (.int .i64 a0_1) := (blk_cell BK138.out 1).trans rfl; have hcz53_2 : w52.cell? ⟨gb138, 2, none⟩ = some (.int .i64 a0_2) := (blk_cell BK138.out 2).trans rfl; have hcz53_3 : w52.cell? ⟨gb138, 3, none⟩ = some (.slice A0_3 l0_3.length c0_3) := (blk_cell BK138.out 3).trans rfl; have hcz53_4 : w52.cell? ⟨gb138, 4, none⟩ = some (.slice A0_4 l0_4.length c0_4) := (blk_cell BK138.out 4).trans rfl; have hcz53_5 : w52.cell? ⟨gb138, 5, none⟩ = some (.slice A0_5 l0_5.length c0_5) := (blk_cell BK138.out 5).trans rfl; have hcz53_6 : w52.cell? ⟨gb138, 6, none⟩ = some (.slice A0_6 l0_6.length c0_6) := (blk_cell BK138.out 6).trans rfl; have hcz53_7 : w52.cell? ⟨gb138, 7, none⟩ = some (.slice A0_7 l0_7.length c0_7) := (blk_cell BK138.out 7).trans rfl; have hfz53_0 := blk_frozen BK138.out 0; have hfz53_1 := blk_frozen BK138.out 1; have hfz53_2 := blk_frozen BK138.out 2; have hfz53_3 := blk_frozen BK138.out 3; have hfz53_4 := blk_frozen BK138.out 4; have hfz53_5 := blk_frozen BK138.out 5; have hfz53_6 := blk_frozen BK138.out 6; have hfz53_7 := blk_frozen BK138.out 7) | ((with_reducible refine gate_callee (f := 32) rfl ?_); refine goesL_ (some 10) rfl rfl Tryd.func32 (by kernel_rfl) rfl #[.agg #[.int .i64 a0_1, .int .i64 a0_2, .slice A0_3 l0_3.length c0_3, .slice A0_4 l0_4.length c0_4, .slice A0_5 l0_5.length c0_5]] rfl (by (try simp only [List.map_toArray, List.map_cons, List.map_nil]); first | done | rfl | (simp only [List.length_drop, List.length_take]; rfl)) ?_; (with_reducible refine (grid_Check.calls k a0_1 a0_2 _ _ l0_3 _ _ l0_4 _ _ l0_5 t139 _ ?side1 ?side2 ?side3 ?side4 ?side5 ?side6 A2.out).mono ?_); (case side1 => repeat (first | exact (Kd.C_below HR0_3.out HB.out) | (with_reducible refine Kd.C_alloc ?_ _) | (with_reducible refine Kd.C_drewN ?_ _) | (with_reducible refine Kd.C_drew ?_))); (case side2 => exact HC0_3.out); (case side3 => repeat (first | exact (Kd.C_below HR0_4.out HB.out) | (with_reducible refine Kd.C_alloc ?_ _) | (with_reducible refine Kd.C_drewN ?_ _) | (with_reducible refine Kd.C_drew ?_))); (case side4 => exact HC0_4.out); (case side5 => repeat (first | exact (Kd.C_below HR0_5.out HB.out) | (with_reducible refine Kd.C_alloc ?_ _) | (with_reducible refine Kd.C_drewN ?_ _) | (with_reducible refine Kd.C_drew ?_))); (case side6 => exact HC0_5.out); rintro e w54 ⟨rfl, hb⟩; refine ⟨_, rfl, ?_⟩; have n0_ := Aside0.mk (blk_below (g := gb138) (o := .cells #[.string a0_0, .int .i64 a0_1, .int .i64 a0_2, .slice A0_3 l0_3.length c0_3, .slice A0_4 l0_4.length c0_4, .slice A0_5 l0_5.length c0_5, .slice A0_6 l0_6.length c0_6, .slice A0_7 l0_7.length c0_7] 27 (0, 0)) (by (with_reducible repeat (first | refine blk_drewN ?_ _ | refine blk_drew ?_ | refine blk_alloc ?_ _)); exact BK138.out) hb); have n1_ := Aside0.mk (below_step (by repeat (first | (with_reducible first | exact HB.out | apply below_alloc | apply pw_below_drewN | apply below_drew1 | refine below_set ?_ GE138.out) | exact HB.out)) hb); clear BK138; clear HB; have BK138 := n0_; have HB := n1_; clear n0_ n1_; (try clear hb); (try clear hb2); (try clear hk); (try clear hi)))
    go_ret
    exact ⟨by first | rfl | (simp [errW_none, errW_some] <;> rfl) | (simp [*, errW_none, errW_some] <;> rfl) | (exfalso; contradiction), by repeat (first | (with_reducible first | exact HB.out | apply below_alloc | apply pw_below_drewN | apply below_drew1 | refine below_set ?_ GE138.out) | exact HB.out)⟩
end Go.Proofs.YtiipailmldbpbaaDoor.Q
