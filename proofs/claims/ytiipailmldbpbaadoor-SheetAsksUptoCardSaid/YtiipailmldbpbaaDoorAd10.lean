/- PART 10 OF A PROOF: Lean functions, and that the program computes them; written by hand and by a program. Not trusted: Lean checks it. -/
import Derived.Test.YtiipailmldbpbaaDoorAd3
import Derived.Test.YtiipailmldbpbaaDoorAd5
import Derived.Test.YtiipailmldbpbaaDoorAd9
set_option linter.unusedVariables false
set_option linter.unusedSimpArgs false
namespace Go.Proofs.YtiipailmldbpbaaDoor.Q
open Go.RowKit Go.Proofs.YtiipailmldbpbaaDoorW.PrintWords Go.Proofs.YtiipailmldbpbaaDoorW.PrintLast Go.Proofs.YtiipailmldbpbaaDoorW.PrintMore
attribute [local go_sem] max2_int min2_int max_two min_two max_three min_three max_four min_four
set_option linter.unusedVariables false
set_option linter.unusedSimpArgs false
mutual
def sheet_Check.j0 : Nat → Bool → ByteArray → Int → Int → List Bool → List Bool → List Bool → List ByteArray → List ByteArray → List ByteArray → List Bool → Int → Bool → Option (Int)
  | 0, _, _, _, _, _, _, _, _, _, _, _, _, _ => none
  | k + 1, x28, x169000, x169001, x169002, x169003, x169004, x169005, x169006, x169007, x170000, x170001, x170002, x170003 => if x28 = true then (some 51) else ((page_Check.f k (⟨#[]⟩ : ByteArray) x169001 x169002 x169003 x169004 x169005 x170000 x169007).bind fun t171 => (if t171 = 0 then (sheet_Check.l0 k x170000 (x170000.length : Int) 0 x169000 x169001 x169002 x169003 x169004 x169005 x169006 x169007 x170000 x170001 x170002 x170003) else (some 33)))
def sheet_Check.l0 : Nat → List ByteArray → Int → Int → ByteArray → Int → Int → List Bool → List Bool → List Bool → List ByteArray → List ByteArray → List ByteArray → List Bool → Int → Bool → Option (Int)
  | 0, _, _, _, _, _, _, _, _, _, _, _, _, _, _, _ => none
  | k + 1, x39, x40, x41, x169000, x169001, x169002, x169003, x169004, x169005, x169006, x169007, x170000, x170001, x170002, x170003 => if x41 < x40 then (if 0 ≤ x41 then (if x41 < (x39.length : Int) then (if (rdOf ByteArray.empty x39 x41).toList = ([] : List UInt8) then (if x41 < (x170001.length : Int) then (if rdOf false x170001 x41 = true then (some 33) else (sheet_Check.l0 k x39 x40 (wrap64 (x41 + 1)) x169000 x169001 x169002 x169003 x169004 x169005 x169006 x169007 x170000 x170001 x170002 x170003)) else (none)) else (sheet_Check.l0 k x39 x40 (wrap64 (x41 + 1)) x169000 x169001 x169002 x169003 x169004 x169005 x169006 x169007 x170000 x170001 x170002 x170003)) else (none)) else (none)) else ((grid_Open.f k x169001 x169002 x169003 x169004 x169005 x170002).bind fun t174 => (if t174 = true then (some 0) else (some 230)))
end
def sheet_Check.f (k : Nat) (a0_0 : ByteArray) (a0_1 : Int) (a0_2 : Int) (l0_3 : List Bool) (l0_4 : List Bool) (l0_5 : List Bool) (l0_6 : List ByteArray) (l0_7 : List ByteArray) (l1_0 : List ByteArray) (l1_1 : List Bool) (a1_2 : Int) (a1_3 : Bool) : Option (Int) := (page_Check.f k a0_0 a0_1 a0_2 l0_3 l0_4 l0_5 l0_6 l0_7).bind fun t170 => (if t170 = 0 then (if (l1_0.length : Int) = (l0_6.length : Int) then (sheet_Check.j0 k ((l1_1.length : Int) != (l0_6.length : Int)) a0_0 a0_1 a0_2 l0_3 l0_4 l0_5 l0_6 l0_7 l1_0 l1_1 a1_2 a1_3) else (sheet_Check.j0 k true a0_0 a0_1 a0_2 l0_3 l0_4 l0_5 l0_6 l0_7 l1_0 l1_1 a1_2 a1_3)) else (some t170))
set_option maxHeartbeats 8000000 in
set_option maxRecDepth 100000 in
theorem sheet_Check.calls (k : Nat) (a0_0 : ByteArray) (a0_1 : Int) (a0_2 : Int) (A0_3 : Option Addr) (c0_3 : Nat) (l0_3 : List Bool) (A0_4 : Option Addr) (c0_4 : Nat) (l0_4 : List Bool) (A0_5 : Option Addr) (c0_5 : Nat) (l0_5 : List Bool) (A0_6 : Option Addr) (c0_6 : Nat) (l0_6 : List ByteArray) (A0_7 : Option Addr) (c0_7 : Nat) (l0_7 : List ByteArray) (A1_0 : Option Addr) (c1_0 : Nat) (l1_0 : List ByteArray) (A1_1 : Option Addr) (c1_1 : Nat) (l1_1 : List Bool) (a1_2 : Int) (a1_3 : Bool) (r : Int) (w : World) (hr0_3 : Kd.C Kd.bool w A0_3 l0_3.length l0_3) (hc0_3 : l0_3.length ≤ c0_3) (hr0_4 : Kd.C Kd.bool w A0_4 l0_4.length l0_4) (hc0_4 : l0_4.length ≤ c0_4) (hr0_5 : Kd.C Kd.bool w A0_5 l0_5.length l0_5) (hc0_5 : l0_5.length ≤ c0_5) (hr0_6 : Kd.C Kd.string w A0_6 l0_6.length l0_6) (hc0_6 : l0_6.length ≤ c0_6) (hr0_7 : Kd.C Kd.string w A0_7 l0_7.length l0_7) (hc0_7 : l0_7.length ≤ c0_7) (hr1_0 : Kd.C Kd.string w A1_0 l1_0.length l1_0) (hc1_0 : l1_0.length ≤ c1_0) (hr1_1 : Kd.C Kd.bool w A1_1 l1_1.length l1_1) (hc1_1 : l1_1.length ≤ c1_1) (hT : Tabs w) (h : sheet_Check.f k a0_0 a0_1 a0_2 l0_3 l0_4 l0_5 l0_6 l0_7 l1_0 l1_1 a1_2 a1_3 = some r) :
    Calls Tryd.prog 13 #[.agg #[.string a0_0, .int .i64 a0_1, .int .i64 a0_2, .slice A0_3 l0_3.length c0_3, .slice A0_4 l0_4.length c0_4, .slice A0_5 l0_5.length c0_5, .slice A0_6 l0_6.length c0_6, .slice A0_7 l0_7.length c0_7], .agg #[.slice A1_0 l1_0.length c1_0, .slice A1_1 l1_1.length c1_1, .int .i64 a1_2, .bool a1_3]] w fun e w' => e = .returned (.int .i64 r) ∧ Below w.heap.size w w' := by
  have HT := Aside0.mk hT
  clear hT
  have hu27 := Tryd.underlying27
  have hu30 := Tryd.underlying30
  have hu24 := Tryd.underlying24
  have HR0_3 := Aside0.mk hr0_3
  have HC0_3 := Aside0.mk hc0_3
  clear hr0_3 hc0_3
  have HR0_4 := Aside0.mk hr0_4
  have HC0_4 := Aside0.mk hc0_4
  clear hr0_4 hc0_4
  have HR0_5 := Aside0.mk hr0_5
  have HC0_5 := Aside0.mk hc0_5
  clear hr0_5 hc0_5
  have HR0_6 := Aside0.mk hr0_6
  have HC0_6 := Aside0.mk hc0_6
  clear hr0_6 hc0_6
  have HR0_7 := Aside0.mk hr0_7
  have HC0_7 := Aside0.mk hc0_7
  clear hr0_7 hc0_7
  have HR1_0 := Aside0.mk hr1_0
  have HC1_0 := Aside0.mk hc1_0
  clear hr1_0 hc1_0
  have HR1_1 := Aside0.mk hr1_1
  have HC1_1 := Aside0.mk hc1_1
  clear hr1_1 hc1_1
  have HB := Aside0.mk (Below.refl w.heap.size w)
  have H : ((page_Check.f k a0_0 a0_1 a0_2 l0_3 l0_4 l0_5 l0_6 l0_7).bind fun t170 => (if t170 = 0 then (if (l1_0.length : Int) = (l0_6.length : Int) then (sheet_Check.j0 k ((l1_1.length : Int) != (l0_6.length : Int)) a0_0 a0_1 a0_2 l0_3 l0_4 l0_5 l0_6 l0_7 l1_0 l1_1 a1_2 a1_3) else (sheet_Check.j0 k true a0_0 a0_1 a0_2 l0_3 l0_4 l0_5 l0_6 l0_7 l1_0 l1_1 a1_2 a1_3)) else (some t170))) = some r := h
  clear h
  replace H := Option.bind_eq_some_iff.mp H
  obtain ⟨t170, A30, H⟩ := H
  replace H : (if t170 = 0 then (if (l1_0.length : Int) = (l0_6.length : Int) then (sheet_Check.j0 k ((l1_1.length : Int) != (l0_6.length : Int)) a0_0 a0_1 a0_2 l0_3 l0_4 l0_5 l0_6 l0_7 l1_0 l1_1 a1_2 a1_3) else (sheet_Check.j0 k true a0_0 a0_1 a0_2 l0_3 l0_4 l0_5 l0_6 l0_7 l1_0 l1_1 a1_2 a1_3)) else (some t170)) = some r := H
  have A3 := Aside0.mk A30
  clear A30
  by_cases c4 : t170 = 0
  · rw [if_pos c4] at H
    have c4b0 : (t170 == 0) = true := beq_iff_eq.mpr c4
    have c4b1 : (t170 != 0) = false := bne_eq_false_iff_eq.mpr c4
    clear c4
    have HC5 := Aside0.mk H
    clear H
    go_enter Tryd.func13, Tryd.ntmps13
    go_upto_region 4 with (first | ((with_reducible refine gate_dst (N := 2) rfl ?_); (try (refine gate_guard (by rfl) ?_; dsimp only)); refine box_event ?hg (N := 2) ?hd (cs := #[.string a0_0, .int .i64 a0_1, .int .i64 a0_2, .slice A0_3 l0_3.length c0_3, .slice A0_4 l0_4.length c0_4, .slice A0_5 l0_5.length c0_5, .slice A0_6 l0_6.length c0_6, .slice A0_7 l0_7.length c0_7]) (t := 27) ?hr ?_; (case hd => rfl); (case hg => rfl); (case hr => first | (go_simp; done) | (go_simp; rfl)); intro gb168 hg w6 hbox hb; have n0_ := Aside0.mk (below_step (by repeat (first | (with_reducible first | exact HB.out | apply below_alloc | apply pw_below_drewN | apply below_drew1) | exact HB.out)) hb); have n1_ := Aside0.mk (hbox); have n2_ := Aside0.mk ((by rw [hg]; exact (below_size (by repeat (first | (with_reducible first | exact HB.out | apply below_alloc | apply pw_below_drewN | apply below_drew1) | exact HB.out))) : w.heap.size ≤ gb168)); have n3_ := Aside0.mk ((by rw [hg]; exact (below_size (by repeat (first | (with_reducible first | exact HB.out | apply below_alloc | apply pw_below_drewN | apply below_drew1) | exact HB.out))) : w.heap.size ≤ gb168)); clear HB; have HB := n0_; have BK168 := n1_; have GW168 := n2_; have GE168 := n3_; clear n0_ n1_ n2_ n3_; clear hb hbox hg) | ((with_reducible refine gate_dst (N := 3) rfl ?_); (try (refine gate_guard (by rfl) ?_; dsimp only)); refine box_event ?hg (N := 3) ?hd (cs := #[.slice A1_0 l1_0.length c1_0, .slice A1_1 l1_1.length c1_1, .int .i64 a1_2, .bool a1_3]) (t := 30) ?hr ?_; (case hd => rfl); (case hg => rfl); (case hr => first | (go_simp; done) | (go_simp; rfl)); intro gb169 hg w7 hbox hb; have n0_ := Aside0.mk (blk_below (g := gb168) (o := .cells #[.string a0_0, .int .i64 a0_1, .int .i64 a0_2, .slice A0_3 l0_3.length c0_3, .slice A0_4 l0_4.length c0_4, .slice A0_5 l0_5.length c0_5, .slice A0_6 l0_6.length c0_6, .slice A0_7 l0_7.length c0_7] 27 (0, 0)) (by (with_reducible repeat (first | refine blk_drewN ?_ _ | refine blk_drew ?_ | refine blk_alloc ?_ _)); exact BK168.out) hb); have n1_ := Aside0.mk (below_step (by repeat (first | (with_reducible first | exact HB.out | apply below_alloc | apply pw_below_drewN | apply below_drew1 | refine below_set ?_ GE168.out) | exact HB.out)) hb); have n2_ := Aside0.mk (hbox); have n3_ := Aside0.mk ((by rw [hg]; exact (below_size (by repeat (first | (with_reducible first | exact HB.out | apply below_alloc | apply pw_below_drewN | apply below_drew1 | refine below_set ?_ GE168.out) | exact HB.out))) : w.heap.size ≤ gb169)); have n4_ := Aside0.mk ((by rw [hg]; exact (below_size (by repeat (first | (with_reducible first | exact HB.out | apply below_alloc | apply pw_below_drewN | apply below_drew1 | refine below_set ?_ GE168.out) | exact HB.out))) : w.heap.size ≤ gb169)); have n5_ := Aside0.mk ((by rw [hg]; exact Nat.ne_of_lt (blk_lt (g := gb168) (o := .cells #[.string a0_0, .int .i64 a0_1, .int .i64 a0_2, .slice A0_3 l0_3.length c0_3, .slice A0_4 l0_4.length c0_4, .slice A0_5 l0_5.length c0_5, .slice A0_6 l0_6.length c0_6, .slice A0_7 l0_7.length c0_7] 27 (0, 0)) (by (with_reducible repeat (first | refine blk_drewN ?_ _ | refine blk_drew ?_ | refine blk_alloc ?_ _)); exact BK168.out)) : gb168 ≠ gb169)); have n6_ := Aside0.mk ((by rw [hg]; exact Nat.ne_of_gt (blk_lt (g := gb168) (o := .cells #[.string a0_0, .int .i64 a0_1, .int .i64 a0_2, .slice A0_3 l0_3.length c0_3, .slice A0_4 l0_4.length c0_4, .slice A0_5 l0_5.length c0_5, .slice A0_6 l0_6.length c0_6, .slice A0_7 l0_7.length c0_7] 27 (0, 0)) (by (with_reducible repeat (first | refine blk_drewN ?_ _ | refine blk_drew ?_ | refine blk_alloc ?_ _)); exact BK168.out)) : gb169 ≠ gb168)); clear BK168; clear HB; have BK168 := n0_; have HB := n1_; have BK169 := n2_; have GW169 := n3_; have GE169 := n4_; have NB168_169 := n5_; have NB169_168 := n6_; clear n0_ n1_ n2_ n3_ n4_ n5_ n6_; clear hb hbox hg; have hnb8 := NB168_169.out; have hnc8 := NB169_168.out; have hcz9_0 : w7.cell? ⟨gb168, 0, none⟩ = some (.string a0_0) := (blk_cell BK168.out 0).trans rfl; have hcz9_1 : w7.cell? ⟨gb168, 1, none⟩ = some (.int .i64 a0_1) := (blk_cell BK168.out 1).trans rfl; have hcz9_2 : w7.cell? ⟨gb168, 2, none⟩ = some (.int .i64 a0_2) := (blk_cell BK168.out 2).trans rfl; have hcz9_3 : w7.cell? ⟨gb168, 3, none⟩ = some (.slice A0_3 l0_3.length c0_3) := (blk_cell BK168.out 3).trans rfl; have hcz9_4 : w7.cell? ⟨gb168, 4, none⟩ = some (.slice A0_4 l0_4.length c0_4) := (blk_cell BK168.out 4).trans rfl; have hcz9_5 : w7.cell? ⟨gb168, 5, none⟩ = some (.slice A0_5 l0_5.length c0_5) := (blk_cell BK168.out 5).trans rfl; have hcz9_6 : w7.cell? ⟨gb168, 6, none⟩ = some (.slice A0_6 l0_6.length c0_6) := (blk_cell BK168.out 6).trans rfl; have hcz9_7 : w7.cell? ⟨gb168, 7, none⟩ = some (.slice A0_7 l0_7.length c0_7) := (blk_cell BK168.out 7).trans rfl; have hfz9_0 := blk_frozen BK168.out 0; have hfz9_1 := blk_frozen BK168.out 1; have hfz9_2 := blk_frozen BK168.out 2; have hfz9_3 := blk_frozen BK168.out 3; have hfz9_4 := blk_frozen BK168.out 4; have hfz9_5 := blk_frozen BK168.out 5; have hfz9_6 := blk_frozen BK168.out 6; have hfz9_7 := blk_frozen BK168.out 7) | ((with_reducible refine gate_callee (f := 20) rfl ?_); refine goesL_ (some 9) rfl rfl Tryd.func20 (by kernel_rfl) rfl #[.agg #[.string a0_0, .int .i64 a0_1, .int .i64 a0_2, .slice A0_3 l0_3.length c0_3, .slice A0_4 l0_4.length c0_4, .slice A0_5 l0_5.length c0_5, .slice A0_6 l0_6.length c0_6, .slice A0_7 l0_7.length c0_7]] rfl (by (try simp only [List.map_toArray, List.map_cons, List.map_nil]); first | done | rfl | (simp only [List.length_drop, List.length_take]; rfl)) ?_; (with_reducible refine (page_Check.calls k a0_0 a0_1 a0_2 _ _ l0_3 _ _ l0_4 _ _ l0_5 _ _ l0_6 _ _ l0_7 t170 _ ?side1 ?side2 ?side3 ?side4 ?side5 ?side6 ?side7 ?side8 ?side9 ?side10 ?side11 A3.out).mono ?_); (case side1 => repeat (first | exact (Kd.C_below HR0_3.out HB.out) | (with_reducible refine Kd.C_alloc ?_ _) | (with_reducible refine Kd.C_drewN ?_ _) | (with_reducible refine Kd.C_drew ?_))); (case side2 => exact HC0_3.out); (case side3 => repeat (first | exact (Kd.C_below HR0_4.out HB.out) | (with_reducible refine Kd.C_alloc ?_ _) | (with_reducible refine Kd.C_drewN ?_ _) | (with_reducible refine Kd.C_drew ?_))); (case side4 => exact HC0_4.out); (case side5 => repeat (first | exact (Kd.C_below HR0_5.out HB.out) | (with_reducible refine Kd.C_alloc ?_ _) | (with_reducible refine Kd.C_drewN ?_ _) | (with_reducible refine Kd.C_drew ?_))); (case side6 => exact HC0_5.out); (case side7 => repeat (first | exact (Kd.C_below HR0_6.out HB.out) | (with_reducible refine Kd.C_alloc ?_ _) | (with_reducible refine Kd.C_drewN ?_ _) | (with_reducible refine Kd.C_drew ?_))); (case side8 => exact HC0_6.out); (case side9 => repeat (first | exact (Kd.C_below HR0_7.out HB.out) | (with_reducible refine Kd.C_alloc ?_ _) | (with_reducible refine Kd.C_drewN ?_ _) | (with_reducible refine Kd.C_drew ?_))); (case side10 => exact HC0_7.out); (case side11 => exact tabs_below HT.out (by repeat (first | (with_reducible first | exact HB.out | apply below_alloc | apply pw_below_drewN | apply below_drew1 | refine below_set ?_ GE168.out | refine below_set ?_ GE169.out) | exact HB.out))); rintro e w10 ⟨rfl, hb⟩; refine ⟨_, rfl, ?_⟩; have n0_ := Aside0.mk (blk_below (g := gb168) (o := .cells #[.string a0_0, .int .i64 a0_1, .int .i64 a0_2, .slice A0_3 l0_3.length c0_3, .slice A0_4 l0_4.length c0_4, .slice A0_5 l0_5.length c0_5, .slice A0_6 l0_6.length c0_6, .slice A0_7 l0_7.length c0_7] 27 (0, 0)) (by (with_reducible repeat (first | refine blk_drewN ?_ _ | refine blk_drew ?_ | refine blk_alloc ?_ _)); exact BK168.out) hb); have n1_ := Aside0.mk (blk_below (g := gb169) (o := .cells #[.slice A1_0 l1_0.length c1_0, .slice A1_1 l1_1.length c1_1, .int .i64 a1_2, .bool a1_3] 30 (0, 0)) (by (with_reducible repeat (first | refine blk_drewN ?_ _ | refine blk_drew ?_ | refine blk_alloc ?_ _)); exact BK169.out) hb); have n2_ := Aside0.mk (below_step (by repeat (first | (with_reducible first | exact HB.out | apply below_alloc | apply pw_below_drewN | apply below_drew1 | refine below_set ?_ GE168.out | refine below_set ?_ GE169.out) | exact HB.out)) hb); clear BK168; clear BK169; clear HB; have BK168 := n0_; have BK169 := n1_; have HB := n2_; clear n0_ n1_ n2_; (try clear hb); (try clear hb2); (try clear hk); (try clear hi)))
    (try simp only [Act.put, List.setIfInBounds_toArray, List.set_cons_zero, List.set_cons_succ])
    go_cut [28] (fun v28 wc => ∃ (kq : Nat) (x28_4 : Bool), v28 = .bool x28_4 ∧ Aside0 (sheet_Check.j0 kq x28_4 a0_0 a0_1 a0_2 l0_3 l0_4 l0_5 l0_6 l0_7 l1_0 l1_1 a1_2 a1_3 = some r) ∧ Aside0 (kq ≤ k) ∧ Aside0 (wc.heap[gb168]? = some (.cells #[.string a0_0, .int .i64 a0_1, .int .i64 a0_2, (.slice A0_3 l0_3.length c0_3), (.slice A0_4 l0_4.length c0_4), (.slice A0_5 l0_5.length c0_5), (.slice A0_6 l0_6.length c0_6), (.slice A0_7 l0_7.length c0_7)] 27 (0, 0))) ∧ Aside0 (wc.heap[gb169]? = some (.cells #[(.slice A1_0 l1_0.length c1_0), (.slice A1_1 l1_1.length c1_1), .int .i64 a1_2, .bool a1_3] 30 (0, 0))) ∧ Aside0 (Below w.heap.size w wc))
    case first =>
      have H := HC5.out
      clear HC5
      by_cases c11 : (l1_0.length : Int) = (l0_6.length : Int)
      · rw [if_pos c11] at H
        have c11b0 : ((l1_0.length : Int) == (l0_6.length : Int)) = true := beq_iff_eq.mpr c11
        have c11b1 : ((l1_0.length : Int) != (l0_6.length : Int)) = false := bne_eq_false_iff_eq.mpr c11
        have c11b2 : (l1_0.length == l0_6.length) = true := by first | simpa using c11 | (simp at c11 ⊢; omega)
        clear c11
        (first | rw [c11b0] | (simp only [i64_w, i32_w]; rw [c11b0]) | skip)
        have H' := Aside0.mk H
        clear H
        have hnb12 := NB169_168.out
        have hnc12 := NB168_169.out
        have hcz13_0 : w10.cell? ⟨gb169, 0, none⟩ = some (.slice A1_0 l1_0.length c1_0) := (blk_cell BK169.out 0).trans rfl
        have hcz13_1 : w10.cell? ⟨gb169, 1, none⟩ = some (.slice A1_1 l1_1.length c1_1) := (blk_cell BK169.out 1).trans rfl
        have hcz13_2 : w10.cell? ⟨gb169, 2, none⟩ = some (.int .i64 a1_2) := (blk_cell BK169.out 2).trans rfl
        have hcz13_3 : w10.cell? ⟨gb169, 3, none⟩ = some (.bool a1_3) := (blk_cell BK169.out 3).trans rfl
        have hfz13_0 := blk_frozen BK169.out 0
        have hfz13_1 := blk_frozen BK169.out 1
        have hfz13_2 := blk_frozen BK169.out 2
        have hfz13_3 := blk_frozen BK169.out 3
        have hcz14_0 : w10.cell? ⟨gb168, 0, none⟩ = some (.string a0_0) := (blk_cell BK168.out 0).trans rfl
        have hcz14_1 : w10.cell? ⟨gb168, 1, none⟩ = some (.int .i64 a0_1) := (blk_cell BK168.out 1).trans rfl
        have hcz14_2 : w10.cell? ⟨gb168, 2, none⟩ = some (.int .i64 a0_2) := (blk_cell BK168.out 2).trans rfl
        have hcz14_3 : w10.cell? ⟨gb168, 3, none⟩ = some (.slice A0_3 l0_3.length c0_3) := (blk_cell BK168.out 3).trans rfl
        have hcz14_4 : w10.cell? ⟨gb168, 4, none⟩ = some (.slice A0_4 l0_4.length c0_4) := (blk_cell BK168.out 4).trans rfl
        have hcz14_5 : w10.cell? ⟨gb168, 5, none⟩ = some (.slice A0_5 l0_5.length c0_5) := (blk_cell BK168.out 5).trans rfl
        have hcz14_6 : w10.cell? ⟨gb168, 6, none⟩ = some (.slice A0_6 l0_6.length c0_6) := (blk_cell BK168.out 6).trans rfl
        have hcz14_7 : w10.cell? ⟨gb168, 7, none⟩ = some (.slice A0_7 l0_7.length c0_7) := (blk_cell BK168.out 7).trans rfl
        have hfz14_0 := blk_frozen BK168.out 0
        have hfz14_1 := blk_frozen BK168.out 1
        have hfz14_2 := blk_frozen BK168.out 2
        have hfz14_3 := blk_frozen BK168.out 3
        have hfz14_4 := blk_frozen BK168.out 4
        have hfz14_5 := blk_frozen BK168.out 5
        have hfz14_6 := blk_frozen BK168.out 6
        have hfz14_7 := blk_frozen BK168.out 7
        go_wp2
        go_meet
        case rel => exact ⟨_, (((l1_1.length : Int) != (l0_6.length : Int))), (by first | rfl | (simp; done) | (simp [*]; done)), H', ⟨by first | omega | exact Nat.le_refl _⟩, ⟨by (with_reducible repeat (first | refine blk_drewN ?_ _ | refine blk_drew ?_ | refine blk_alloc ?_ _)); exact BK168.out⟩, ⟨by (with_reducible repeat (first | refine blk_drewN ?_ _ | refine blk_drew ?_ | refine blk_alloc ?_ _)); exact BK169.out⟩, ⟨by repeat (first | (with_reducible first | exact HB.out | apply below_alloc | apply pw_below_drewN | apply below_drew1 | refine below_set ?_ GE168.out | refine below_set ?_ GE169.out) | exact HB.out)⟩⟩
      · rw [if_neg c11] at H
        have c11b0 : ((l1_0.length : Int) == (l0_6.length : Int)) = false := beq_eq_false_iff_ne.mpr c11
        have c11b1 : ((l1_0.length : Int) != (l0_6.length : Int)) = true := bne_iff_ne.mpr c11
        have c11b2 : (l1_0.length == l0_6.length) = false := by first | simpa using c11 | (simp at c11 ⊢; omega)
        (first | rw [c11b0] | (simp only [i64_w, i32_w]; rw [c11b0]) | skip)
        have H' := Aside0.mk H
        clear H
        have hnb15 := NB169_168.out
        have hnc15 := NB168_169.out
        have hcz16_0 : w10.cell? ⟨gb169, 0, none⟩ = some (.slice A1_0 l1_0.length c1_0) := (blk_cell BK169.out 0).trans rfl
        have hcz16_1 : w10.cell? ⟨gb169, 1, none⟩ = some (.slice A1_1 l1_1.length c1_1) := (blk_cell BK169.out 1).trans rfl
        have hcz16_2 : w10.cell? ⟨gb169, 2, none⟩ = some (.int .i64 a1_2) := (blk_cell BK169.out 2).trans rfl
        have hcz16_3 : w10.cell? ⟨gb169, 3, none⟩ = some (.bool a1_3) := (blk_cell BK169.out 3).trans rfl
        have hfz16_0 := blk_frozen BK169.out 0
        have hfz16_1 := blk_frozen BK169.out 1
        have hfz16_2 := blk_frozen BK169.out 2
        have hfz16_3 := blk_frozen BK169.out 3
        have hcz17_0 : w10.cell? ⟨gb168, 0, none⟩ = some (.string a0_0) := (blk_cell BK168.out 0).trans rfl
        have hcz17_1 : w10.cell? ⟨gb168, 1, none⟩ = some (.int .i64 a0_1) := (blk_cell BK168.out 1).trans rfl
        have hcz17_2 : w10.cell? ⟨gb168, 2, none⟩ = some (.int .i64 a0_2) := (blk_cell BK168.out 2).trans rfl
        have hcz17_3 : w10.cell? ⟨gb168, 3, none⟩ = some (.slice A0_3 l0_3.length c0_3) := (blk_cell BK168.out 3).trans rfl
        have hcz17_4 : w10.cell? ⟨gb168, 4, none⟩ = some (.slice A0_4 l0_4.length c0_4) := (blk_cell BK168.out 4).trans rfl
        have hcz17_5 : w10.cell? ⟨gb168, 5, none⟩ = some (.slice A0_5 l0_5.length c0_5) := (blk_cell BK168.out 5).trans rfl
        have hcz17_6 : w10.cell? ⟨gb168, 6, none⟩ = some (.slice A0_6 l0_6.length c0_6) := (blk_cell BK168.out 6).trans rfl
        have hcz17_7 : w10.cell? ⟨gb168, 7, none⟩ = some (.slice A0_7 l0_7.length c0_7) := (blk_cell BK168.out 7).trans rfl
        have hfz17_0 := blk_frozen BK168.out 0
        have hfz17_1 := blk_frozen BK168.out 1
        have hfz17_2 := blk_frozen BK168.out 2
        have hfz17_3 := blk_frozen BK168.out 3
        have hfz17_4 := blk_frozen BK168.out 4
        have hfz17_5 := blk_frozen BK168.out 5
        have hfz17_6 := blk_frozen BK168.out 6
        have hfz17_7 := blk_frozen BK168.out 7
        go_wp2
        go_meet
        case rel => exact ⟨_, (true), (by first | rfl | (simp; done) | (simp [*]; done)), H', ⟨by first | omega | exact Nat.le_refl _⟩, ⟨by (with_reducible repeat (first | refine blk_drewN ?_ _ | refine blk_drew ?_ | refine blk_alloc ?_ _)); exact BK168.out⟩, ⟨by (with_reducible repeat (first | refine blk_drewN ?_ _ | refine blk_drew ?_ | refine blk_alloc ?_ _)); exact BK169.out⟩, ⟨by repeat (first | (with_reducible first | exact HB.out | apply below_alloc | apply pw_below_drewN | apply below_drew1 | refine below_set ?_ GE168.out | refine below_set ?_ GE169.out) | exact HB.out)⟩⟩
    case rest =>
      clear HC5
      try clear c1
      try clear c2
      try clear p2
      try clear c4
      try clear c4b0
      try clear c4b1
      try clear c8
      try clear c11
      try clear c11b0
      try clear c11b1
      try clear c11b2
      try clear c12
      try clear c13
      try clear c15
      try clear hcz13_0
      try clear hcz13_1
      try clear hcz13_2
      try clear hcz13_3
      try clear hcz14_0
      try clear hcz14_1
      try clear hcz14_2
      try clear hcz14_3
      try clear hcz14_4
      try clear hcz14_5
      try clear hcz14_6
      try clear hcz14_7
      try clear hcz16_0
      try clear hcz16_1
      try clear hcz16_2
      try clear hcz16_3
      try clear hcz17_0
      try clear hcz17_1
      try clear hcz17_2
      try clear hcz17_3
      try clear hcz17_4
      try clear hcz17_5
      try clear hcz17_6
      try clear hcz17_7
      try clear hcz9_0
      try clear hcz9_1
      try clear hcz9_2
      try clear hcz9_3
      try clear hcz9_4
      try clear hcz9_5
      try clear hcz9_6
      try clear hcz9_7
      try clear hfz13_0
      try clear hfz13_1
      try clear hfz13_2
      try clear hfz13_3
      try clear hfz14_0
      try clear hfz14_1
      try clear hfz14_2
      try clear hfz14_3
      try clear hfz14_4
      try clear hfz14_5
      try clear hfz14_6
      try clear hfz14_7
      try clear hfz16_0
      try clear hfz16_1
      try clear hfz16_2
      try clear hfz16_3
      try clear hfz17_0
      try clear hfz17_1
      try clear hfz17_2
      try clear hfz17_3
      try clear hfz17_4
      try clear hfz17_5
      try clear hfz17_6
      try clear hfz17_7
      try clear hfz9_0
      try clear hfz9_1
      try clear hfz9_2
      try clear hfz9_3
      try clear hfz9_4
      try clear hfz9_5
      try clear hfz9_6
      try clear hfz9_7
      obtain ⟨kq, x28_4, rfl, HA, HJ4, BK168, BK169, HB⟩ := hcut
      cases kq with
      | zero => exact absurd HA.out (by simp [sheet_Check.j0])
      | succ kj4 =>
        have H := HA.out
        clear HA
        simp only [sheet_Check.j0] at H
        by_cases c18 : x28_4 = true
        · subst c18
          have H1 : (some 51) = some r := by rw [if_pos rfl] at H; exact H
          clear H
          have H := H1
          clear H1
          obtain rfl := Option.some.inj H
          go_wp2
          go_ret
          exact ⟨by first | rfl | (simp [errW_none, errW_some] <;> rfl) | (simp [*, errW_none, errW_some] <;> rfl) | (exfalso; contradiction), by repeat (first | (with_reducible first | exact HB.out | apply below_alloc | apply pw_below_drewN | apply below_drew1 | refine below_set ?_ GE168.out | refine below_set ?_ GE169.out) | exact HB.out)⟩
        · replace c18 := Bool.eq_false_iff.mpr c18
          subst c18
          have H1 : ((page_Check.f kj4 (⟨#[]⟩ : ByteArray) a0_1 a0_2 l0_3 l0_4 l0_5 l1_0 l0_7).bind fun t171 => (if t171 = 0 then (sheet_Check.l0 kj4 l1_0 (l1_0.length : Int) 0 a0_0 a0_1 a0_2 l0_3 l0_4 l0_5 l0_6 l0_7 l1_0 l1_1 a1_2 a1_3) else (some 33))) = some r := by rw [if_neg (show ¬ (false = true) by decide)] at H; exact H
          clear H
          have H := H1
          clear H1
          replace H := Option.bind_eq_some_iff.mp H
          obtain ⟨t171, A190, H⟩ := H
          replace H : (if t171 = 0 then (sheet_Check.l0 kj4 l1_0 (l1_0.length : Int) 0 a0_0 a0_1 a0_2 l0_3 l0_4 l0_5 l0_6 l0_7 l1_0 l1_1 a1_2 a1_3) else (some 33)) = some r := H
          have A19 := Aside0.mk A190
          clear A190
          by_cases c20 : t171 = 0
          · rw [if_pos c20] at H
            have c20b0 : (t171 == 0) = true := beq_iff_eq.mpr c20
            have c20b1 : (t171 != 0) = false := bne_eq_false_iff_eq.mpr c20
            clear c20
            have H' := Aside0.mk H
            clear H
            have hnb21 := NB168_169.out
            have hnc21 := NB169_168.out
            have hcz22_0 : wc.cell? ⟨gb168, 0, none⟩ = some (.string a0_0) := (blk_cell BK168.out 0).trans rfl
            have hcz22_1 : wc.cell? ⟨gb168, 1, none⟩ = some (.int .i64 a0_1) := (blk_cell BK168.out 1).trans rfl
            have hcz22_2 : wc.cell? ⟨gb168, 2, none⟩ = some (.int .i64 a0_2) := (blk_cell BK168.out 2).trans rfl
            have hcz22_3 : wc.cell? ⟨gb168, 3, none⟩ = some (.slice A0_3 l0_3.length c0_3) := (blk_cell BK168.out 3).trans rfl
            have hcz22_4 : wc.cell? ⟨gb168, 4, none⟩ = some (.slice A0_4 l0_4.length c0_4) := (blk_cell BK168.out 4).trans rfl
            have hcz22_5 : wc.cell? ⟨gb168, 5, none⟩ = some (.slice A0_5 l0_5.length c0_5) := (blk_cell BK168.out 5).trans rfl
            have hcz22_6 : wc.cell? ⟨gb168, 6, none⟩ = some (.slice A0_6 l0_6.length c0_6) := (blk_cell BK168.out 6).trans rfl
            have hcz22_7 : wc.cell? ⟨gb168, 7, none⟩ = some (.slice A0_7 l0_7.length c0_7) := (blk_cell BK168.out 7).trans rfl
            have hfz22_0 := blk_frozen BK168.out 0
            have hfz22_1 := blk_frozen BK168.out 1
            have hfz22_2 := blk_frozen BK168.out 2
            have hfz22_3 := blk_frozen BK168.out 3
            have hfz22_4 := blk_frozen BK168.out 4
            have hfz22_5 := blk_frozen BK168.out 5
            have hfz22_6 := blk_frozen BK168.out 6
            have hfz22_7 := blk_frozen BK168.out 7
            have hcz23_0 : wc.cell? ⟨gb169, 0, none⟩ = some (.slice A1_0 l1_0.length c1_0) := (blk_cell BK169.out 0).trans rfl
            have hcz23_1 : wc.cell? ⟨gb169, 1, none⟩ = some (.slice A1_1 l1_1.length c1_1) := (blk_cell BK169.out 1).trans rfl
            have hcz23_2 : wc.cell? ⟨gb169, 2, none⟩ = some (.int .i64 a1_2) := (blk_cell BK169.out 2).trans rfl
            have hcz23_3 : wc.cell? ⟨gb169, 3, none⟩ = some (.bool a1_3) := (blk_cell BK169.out 3).trans rfl
            have hfz23_0 := blk_frozen BK169.out 0
            have hfz23_1 := blk_frozen BK169.out 1
            have hfz23_2 := blk_frozen BK169.out 2
            have hfz23_3 := blk_frozen BK169.out 3
            go_wp2_with (first | ((with_reducible refine gate_callee (f := 20) rfl ?_); refine goesL_ (some 36) rfl rfl Tryd.func20 (by kernel_rfl) rfl #[.agg #[.string (⟨#[]⟩ : ByteArray), .int .i64 a0_1, .int .i64 a0_2, .slice A0_3 l0_3.length c0_3, .slice A0_4 l0_4.length c0_4, .slice A0_5 l0_5.length c0_5, .slice A1_0 l1_0.length c1_0, .slice A0_7 l0_7.length c0_7]] rfl (by (try simp only [List.map_toArray, List.map_cons, List.map_nil]); first | done | rfl | (simp only [List.length_drop, List.length_take]; rfl)) ?_; (with_reducible refine (page_Check.calls kj4 (⟨#[]⟩ : ByteArray) a0_1 a0_2 _ _ l0_3 _ _ l0_4 _ _ l0_5 _ _ l1_0 _ _ l0_7 t171 _ ?side1 ?side2 ?side3 ?side4 ?side5 ?side6 ?side7 ?side8 ?side9 ?side10 ?side11 A19.out).mono ?_); (case side1 => repeat (first | exact (Kd.C_below HR0_3.out HB.out) | (with_reducible refine Kd.C_alloc ?_ _) | (with_reducible refine Kd.C_drewN ?_ _) | (with_reducible refine Kd.C_drew ?_))); (case side2 => exact HC0_3.out); (case side3 => repeat (first | exact (Kd.C_below HR0_4.out HB.out) | (with_reducible refine Kd.C_alloc ?_ _) | (with_reducible refine Kd.C_drewN ?_ _) | (with_reducible refine Kd.C_drew ?_))); (case side4 => exact HC0_4.out); (case side5 => repeat (first | exact (Kd.C_below HR0_5.out HB.out) | (with_reducible refine Kd.C_alloc ?_ _) | (with_reducible refine Kd.C_drewN ?_ _) | (with_reducible refine Kd.C_drew ?_))); (case side6 => exact HC0_5.out); (case side7 => repeat (first | exact (Kd.C_below HR1_0.out HB.out) | (with_reducible refine Kd.C_alloc ?_ _) | (with_reducible refine Kd.C_drewN ?_ _) | (with_reducible refine Kd.C_drew ?_))); (case side8 => exact HC1_0.out); (case side9 => repeat (first | exact (Kd.C_below HR0_7.out HB.out) | (with_reducible refine Kd.C_alloc ?_ _) | (with_reducible refine Kd.C_drewN ?_ _) | (with_reducible refine Kd.C_drew ?_))); (case side10 => exact HC0_7.out); (case side11 => exact tabs_below HT.out (by repeat (first | (with_reducible first | exact HB.out | apply below_alloc | apply pw_below_drewN | apply below_drew1 | refine below_set ?_ GE168.out | refine below_set ?_ GE169.out) | exact HB.out))); rintro e w24 ⟨rfl, hb⟩; refine ⟨_, rfl, ?_⟩; have n0_ := Aside0.mk (blk_below (g := gb168) (o := .cells #[.string a0_0, .int .i64 a0_1, .int .i64 a0_2, .slice A0_3 l0_3.length c0_3, .slice A0_4 l0_4.length c0_4, .slice A0_5 l0_5.length c0_5, .slice A0_6 l0_6.length c0_6, .slice A0_7 l0_7.length c0_7] 27 (0, 0)) (by (with_reducible repeat (first | refine blk_drewN ?_ _ | refine blk_drew ?_ | refine blk_alloc ?_ _)); exact BK168.out) hb); have n1_ := Aside0.mk (blk_below (g := gb169) (o := .cells #[.slice A1_0 l1_0.length c1_0, .slice A1_1 l1_1.length c1_1, .int .i64 a1_2, .bool a1_3] 30 (0, 0)) (by (with_reducible repeat (first | refine blk_drewN ?_ _ | refine blk_drew ?_ | refine blk_alloc ?_ _)); exact BK169.out) hb); have n2_ := Aside0.mk (below_step (by repeat (first | (with_reducible first | exact HB.out | apply below_alloc | apply pw_below_drewN | apply below_drew1 | refine below_set ?_ GE168.out | refine below_set ?_ GE169.out) | exact HB.out)) hb); clear BK168; clear BK169; clear HB; have BK168 := n0_; have BK169 := n1_; have HB := n2_; clear n0_ n1_ n2_; (try clear hb); (try clear hb2); (try clear hk); (try clear hi); have hcz25_0 : w24.cell? ⟨gb169, 0, none⟩ = some (.slice A1_0 l1_0.length c1_0) := (blk_cell BK169.out 0).trans rfl; have hcz25_1 : w24.cell? ⟨gb169, 1, none⟩ = some (.slice A1_1 l1_1.length c1_1) := (blk_cell BK169.out 1).trans rfl; have hcz25_2 : w24.cell? ⟨gb169, 2, none⟩ = some (.int .i64 a1_2) := (blk_cell BK169.out 2).trans rfl; have hcz25_3 : w24.cell? ⟨gb169, 3, none⟩ = some (.bool a1_3) := (blk_cell BK169.out 3).trans rfl; have hfz25_0 := blk_frozen BK169.out 0; have hfz25_1 := blk_frozen BK169.out 1; have hfz25_2 := blk_frozen BK169.out 2; have hfz25_3 := blk_frozen BK169.out 3))
            go_loopg [41] kj4 (fun kq v41 w' => ∃ (x41_2 : Int), v41 = .int .i64 x41_2 ∧ Aside0 (sheet_Check.l0 kq l1_0 (l1_0.length : Int) x41_2 a0_0 a0_1 a0_2 l0_3 l0_4 l0_5 l0_6 l0_7 l1_0 l1_1 a1_2 a1_3 = some r) ∧ Aside0 (kq ≤ kj4) ∧ Aside0 (w'.heap[gb168]? = some (.cells #[.string a0_0, .int .i64 a0_1, .int .i64 a0_2, (.slice A0_3 l0_3.length c0_3), (.slice A0_4 l0_4.length c0_4), (.slice A0_5 l0_5.length c0_5), (.slice A0_6 l0_6.length c0_6), (.slice A0_7 l0_7.length c0_7)] 27 (0, 0))) ∧ Aside0 (w'.heap[gb169]? = some (.cells #[(.slice A1_0 l1_0.length c1_0), (.slice A1_1 l1_1.length c1_1), .int .i64 a1_2, .bool a1_3] 30 (0, 0))) ∧ Aside0 (Below w.heap.size w w'))
            case atStart => exact ⟨(0), (by first | rfl | (simp; done) | (simp [*]; done)), H', ⟨Nat.le_refl _⟩, ⟨by (with_reducible repeat (first | refine blk_drewN ?_ _ | refine blk_drew ?_ | refine blk_alloc ?_ _)); exact BK168.out⟩, ⟨by (with_reducible repeat (first | refine blk_drewN ?_ _ | refine blk_drew ?_ | refine blk_alloc ?_ _)); exact BK169.out⟩, ⟨by repeat (first | (with_reducible first | exact HB.out | apply below_alloc | apply pw_below_drewN | apply below_drew1 | refine below_set ?_ GE168.out | refine below_set ?_ GE169.out) | exact HB.out)⟩⟩
            case round =>
              clear H'
              try clear c1
              try clear c2
              try clear p2
              try clear c4
              try clear c4b0
              try clear c4b1
              try clear c8
              try clear c11
              try clear c11b0
              try clear c11b1
              try clear c11b2
              try clear c12
              try clear c13
              try clear c15
              try clear c18
              try clear c20
              try clear c20b0
              try clear c20b1
              try clear c21
              try clear hcz13_0
              try clear hcz13_1
              try clear hcz13_2
              try clear hcz13_3
              try clear hcz14_0
              try clear hcz14_1
              try clear hcz14_2
              try clear hcz14_3
              try clear hcz14_4
              try clear hcz14_5
              try clear hcz14_6
              try clear hcz14_7
              try clear hcz16_0
              try clear hcz16_1
              try clear hcz16_2
              try clear hcz16_3
              try clear hcz17_0
              try clear hcz17_1
              try clear hcz17_2
              try clear hcz17_3
              try clear hcz17_4
              try clear hcz17_5
              try clear hcz17_6
              try clear hcz17_7
              try clear hcz22_0
              try clear hcz22_1
              try clear hcz22_2
              try clear hcz22_3
              try clear hcz22_4
              try clear hcz22_5
              try clear hcz22_6
              try clear hcz22_7
              try clear hcz23_0
              try clear hcz23_1
              try clear hcz23_2
              try clear hcz23_3
              try clear hcz25_0
              try clear hcz25_1
              try clear hcz25_2
              try clear hcz25_3
              try clear hcz9_0
              try clear hcz9_1
              try clear hcz9_2
              try clear hcz9_3
              try clear hcz9_4
              try clear hcz9_5
              try clear hcz9_6
              try clear hcz9_7
              try clear hfz13_0
              try clear hfz13_1
              try clear hfz13_2
              try clear hfz13_3
              try clear hfz14_0
              try clear hfz14_1
              try clear hfz14_2
              try clear hfz14_3
              try clear hfz14_4
              try clear hfz14_5
              try clear hfz14_6
              try clear hfz14_7
              try clear hfz16_0
              try clear hfz16_1
              try clear hfz16_2
              try clear hfz16_3
              try clear hfz17_0
              try clear hfz17_1
              try clear hfz17_2
              try clear hfz17_3
              try clear hfz17_4
              try clear hfz17_5
              try clear hfz17_6
              try clear hfz17_7
              try clear hfz22_0
              try clear hfz22_1
              try clear hfz22_2
              try clear hfz22_3
              try clear hfz22_4
              try clear hfz22_5
              try clear hfz22_6
              try clear hfz22_7
              try clear hfz23_0
              try clear hfz23_1
              try clear hfz23_2
              try clear hfz23_3
              try clear hfz25_0
              try clear hfz25_1
              try clear hfz25_2
              try clear hfz25_3
              try clear hfz9_0
              try clear hfz9_1
              try clear hfz9_2
              try clear hfz9_3
              try clear hfz9_4
              try clear hfz9_5
              try clear hfz9_6
              try clear hfz9_7
              try clear p2
              obtain ⟨x41_2, rfl, HA, HK2, BK168, BK169, HB⟩ := hrel
              cases gk with
              | zero => exact absurd HA.out (by simp [sheet_Check.l0])
              | succ k2 =>
                have H := HA.out
                clear HA
                simp only [sheet_Check.l0] at H
                by_cases c26 : x41_2 < (l1_0.length : Int)
                · rw [if_pos c26] at H
                  have c26b0 : decide (x41_2 < (l1_0.length : Int)) = true := decide_eq_true c26
                  clear c26
                  by_cases c27 : 0 ≤ x41_2
                  · rw [if_pos c27] at H
                    have c27b0 : decide (0 ≤ x41_2) = true := decide_eq_true c27
                    clear c27
                    by_cases c28 : x41_2 < (l1_0.length : Int)
                    · rw [if_pos c28] at H
                      have c28b0 : decide (x41_2 < (l1_0.length : Int)) = true := decide_eq_true c28
                      clear c28
                      by_cases c29 : (rdOf ByteArray.empty l1_0 x41_2).toList = ([] : List UInt8)
                      · rw [if_pos c29] at H
                        have c29b0 : ((rdOf ByteArray.empty l1_0 x41_2).toList == ([] : List UInt8)) = true := beq_iff_eq.mpr c29
                        have c29b1 : ((rdOf ByteArray.empty l1_0 x41_2).toList != ([] : List UInt8)) = false := bne_eq_false_iff_eq.mpr c29
                        clear c29
                        by_cases c30 : x41_2 < (l1_1.length : Int)
                        · rw [if_pos c30] at H
                          have c30b0 : decide (x41_2 < (l1_1.length : Int)) = true := decide_eq_true c30
                          clear c30
                          obtain ⟨bq31, hbq31⟩ : ∃ b_ : Bool, b_ = (rdOf false l1_1 x41_2) := ⟨_, rfl⟩
                          replace H : (if bq31 = true then (some 33) else (sheet_Check.l0 k2 l1_0 (l1_0.length : Int) (wrap64 (x41_2 + 1)) a0_0 a0_1 a0_2 l0_3 l0_4 l0_5 l0_6 l0_7 l1_0 l1_1 a1_2 a1_3)) = some r := by rw [← hbq31] at H; exact H
                          have Nbq31 := Aside0.mk hbq31
                          clear hbq31
                          by_cases c32 : bq31 = true
                          · subst c32
                            have H1 : (some 33) = some r := by rw [if_pos rfl] at H; exact H
                            clear H
                            have H := H1
                            clear H1
                            obtain rfl := Option.some.inj H
                            have p172 : 0 ≤ (x41_2 : Int) := of_decide_eq_true (by first | (with_reducible assumption) | assumption)
                            have q172 : x41_2 < (l1_0.length : Int) := of_decide_eq_true (by first | (with_reducible assumption) | assumption)
                            obtain ⟨ad172, e172, hx172_0⟩ := Kd.at_string HR1_0.out x41_2 p172 q172
                            cases e172
                            replace hx172_0 := (HB.out.cell (World.block_lt_of_cell? w _ hx172_0)).trans hx172_0
                            replace p172 := eq_true p172
                            replace q172 := eq_true q172
                            have hnb33 := NB169_168.out
                            have hnc33 := NB168_169.out
                            have hcz34_0 : wr.cell? ⟨gb169, 0, none⟩ = some (.slice (some ad172) l1_0.length c1_0) := (blk_cell BK169.out 0).trans rfl
                            have hcz34_1 : wr.cell? ⟨gb169, 1, none⟩ = some (.slice A1_1 l1_1.length c1_1) := (blk_cell BK169.out 1).trans rfl
                            have hcz34_2 : wr.cell? ⟨gb169, 2, none⟩ = some (.int .i64 a1_2) := (blk_cell BK169.out 2).trans rfl
                            have hcz34_3 : wr.cell? ⟨gb169, 3, none⟩ = some (.bool a1_3) := (blk_cell BK169.out 3).trans rfl
                            have hfz34_0 := blk_frozen BK169.out 0
                            have hfz34_1 := blk_frozen BK169.out 1
                            have hfz34_2 := blk_frozen BK169.out 2
                            have hfz34_3 := blk_frozen BK169.out 3
                            have p173 : 0 ≤ (x41_2 : Int) := of_decide_eq_true (by first | (with_reducible assumption) | assumption)
                            have q173 : x41_2 < (l1_1.length : Int) := of_decide_eq_true (by first | (with_reducible assumption) | assumption)
                            obtain ⟨ad173, e173, hx173_0⟩ := Kd.at_bool HR1_1.out x41_2 p173 q173
                            (try rw [← Nbq31.out] at hx173_0)
                            cases e173
                            replace hx173_0 := (HB.out.cell (World.block_lt_of_cell? w _ hx173_0)).trans hx173_0
                            replace p173 := eq_true p173
                            replace q173 := eq_true q173
                            go_wp2
                            go_ret
                            exact ⟨by first | rfl | (simp [errW_none, errW_some] <;> rfl) | (simp [*, errW_none, errW_some] <;> rfl) | (exfalso; contradiction), by repeat (first | (with_reducible first | exact HB.out | apply below_alloc | apply pw_below_drewN | apply below_drew1 | refine below_set ?_ GE168.out | refine below_set ?_ GE169.out) | exact HB.out)⟩
                          · replace c32 := Bool.eq_false_iff.mpr c32
                            subst c32
                            have H1 : (sheet_Check.l0 k2 l1_0 (l1_0.length : Int) (wrap64 (x41_2 + 1)) a0_0 a0_1 a0_2 l0_3 l0_4 l0_5 l0_6 l0_7 l1_0 l1_1 a1_2 a1_3) = some r := by rw [if_neg (show ¬ (false = true) by decide)] at H; exact H
                            clear H
                            have H := H1
                            clear H1
                            have H' := Aside0.mk H
                            clear H
                            have p172 : 0 ≤ (x41_2 : Int) := of_decide_eq_true (by first | (with_reducible assumption) | assumption)
                            have q172 : x41_2 < (l1_0.length : Int) := of_decide_eq_true (by first | (with_reducible assumption) | assumption)
                            obtain ⟨ad172, e172, hx172_0⟩ := Kd.at_string HR1_0.out x41_2 p172 q172
                            cases e172
                            replace hx172_0 := (HB.out.cell (World.block_lt_of_cell? w _ hx172_0)).trans hx172_0
                            replace p172 := eq_true p172
                            replace q172 := eq_true q172
                            have hnb35 := NB169_168.out
                            have hnc35 := NB168_169.out
                            have hcz36_0 : wr.cell? ⟨gb169, 0, none⟩ = some (.slice (some ad172) l1_0.length c1_0) := (blk_cell BK169.out 0).trans rfl
                            have hcz36_1 : wr.cell? ⟨gb169, 1, none⟩ = some (.slice A1_1 l1_1.length c1_1) := (blk_cell BK169.out 1).trans rfl
                            have hcz36_2 : wr.cell? ⟨gb169, 2, none⟩ = some (.int .i64 a1_2) := (blk_cell BK169.out 2).trans rfl
                            have hcz36_3 : wr.cell? ⟨gb169, 3, none⟩ = some (.bool a1_3) := (blk_cell BK169.out 3).trans rfl
                            have hfz36_0 := blk_frozen BK169.out 0
                            have hfz36_1 := blk_frozen BK169.out 1
                            have hfz36_2 := blk_frozen BK169.out 2
                            have hfz36_3 := blk_frozen BK169.out 3
                            have p173 : 0 ≤ (x41_2 : Int) := of_decide_eq_true (by first | (with_reducible assumption) | assumption)
                            have q173 : x41_2 < (l1_1.length : Int) := of_decide_eq_true (by first | (with_reducible assumption) | assumption)
                            obtain ⟨ad173, e173, hx173_0⟩ := Kd.at_bool HR1_1.out x41_2 p173 q173
                            (try rw [← Nbq31.out] at hx173_0)
                            cases e173
                            replace hx173_0 := (HB.out.cell (World.block_lt_of_cell? w _ hx173_0)).trans hx173_0
                            replace p173 := eq_true p173
                            replace q173 := eq_true q173
                            go_wp2
                            go_roundg k2
                            case measure => have := HJ4.out; have := HK2.out; omega
                            case rel => exact ⟨(wrap64 (x41_2 + 1)), (by first | rfl | (simp; done) | (simp [*]; done)), H', ⟨by have := HJ4.out; have := HK2.out; omega⟩, ⟨by (with_reducible repeat (first | refine blk_drewN ?_ _ | refine blk_drew ?_ | refine blk_alloc ?_ _)); exact BK168.out⟩, ⟨by (with_reducible repeat (first | refine blk_drewN ?_ _ | refine blk_drew ?_ | refine blk_alloc ?_ _)); exact BK169.out⟩, ⟨by repeat (first | (with_reducible first | exact HB.out | apply below_alloc | apply pw_below_drewN | apply below_drew1 | refine below_set ?_ GE168.out | refine below_set ?_ GE169.out) | exact HB.out)⟩⟩
                        · rw [if_neg c30] at H
                          exact absurd H (by simp)
                      · rw [if_neg c29] at H
                        have c29b0 : ((rdOf ByteArray.empty l1_0 x41_2).toList == ([] : List UInt8)) = false := beq_eq_false_iff_ne.mpr c29
                        have c29b1 : ((rdOf ByteArray.empty l1_0 x41_2).toList != ([] : List UInt8)) = true := bne_iff_ne.mpr c29
                        have H' := Aside0.mk H
                        clear H
                        have p172 : 0 ≤ (x41_2 : Int) := of_decide_eq_true (by first | (with_reducible assumption) | assumption)
                        have q172 : x41_2 < (l1_0.length : Int) := of_decide_eq_true (by first | (with_reducible assumption) | assumption)
                        obtain ⟨ad172, e172, hx172_0⟩ := Kd.at_string HR1_0.out x41_2 p172 q172
                        cases e172
                        replace hx172_0 := (HB.out.cell (World.block_lt_of_cell? w _ hx172_0)).trans hx172_0
                        replace p172 := eq_true p172
                        replace q172 := eq_true q172
                        go_wp2
                        go_roundg k2
                        case measure => have := HJ4.out; have := HK2.out; omega
                        case rel => exact ⟨(wrap64 (x41_2 + 1)), (by first | rfl | (simp; done) | (simp [*]; done)), H', ⟨by have := HJ4.out; have := HK2.out; omega⟩, ⟨by (with_reducible repeat (first | refine blk_drewN ?_ _ | refine blk_drew ?_ | refine blk_alloc ?_ _)); exact BK168.out⟩, ⟨by (with_reducible repeat (first | refine blk_drewN ?_ _ | refine blk_drew ?_ | refine blk_alloc ?_ _)); exact BK169.out⟩, ⟨by repeat (first | (with_reducible first | exact HB.out | apply below_alloc | apply pw_below_drewN | apply below_drew1 | refine below_set ?_ GE168.out | refine below_set ?_ GE169.out) | exact HB.out)⟩⟩
                    · rw [if_neg c28] at H
                      exact absurd H (by simp)
                  · rw [if_neg c27] at H
                    exact absurd H (by simp)
                · rw [if_neg c26] at H
                  have c26b0 : decide (x41_2 < (l1_0.length : Int)) = false := decide_eq_false c26
                  clear c26
                  replace H := Option.bind_eq_some_iff.mp H
                  obtain ⟨t174, A370, H⟩ := H
                  replace H : (if t174 = true then (some 0) else (some 230)) = some r := H
                  have A37 := Aside0.mk A370
                  clear A370
                  by_cases c38 : t174 = true
                  · subst c38
                    have H1 : (some 0) = some r := by rw [if_pos rfl] at H; exact H
                    clear H
                    have H := H1
                    clear H1
                    obtain rfl := Option.some.inj H
                    have hnb39 := NB168_169.out
                    have hnc39 := NB169_168.out
                    have hcz40_0 : wr.cell? ⟨gb168, 0, none⟩ = some (.string a0_0) := (blk_cell BK168.out 0).trans rfl
                    have hcz40_1 : wr.cell? ⟨gb168, 1, none⟩ = some (.int .i64 a0_1) := (blk_cell BK168.out 1).trans rfl
                    have hcz40_2 : wr.cell? ⟨gb168, 2, none⟩ = some (.int .i64 a0_2) := (blk_cell BK168.out 2).trans rfl
                    have hcz40_3 : wr.cell? ⟨gb168, 3, none⟩ = some (.slice A0_3 l0_3.length c0_3) := (blk_cell BK168.out 3).trans rfl
                    have hcz40_4 : wr.cell? ⟨gb168, 4, none⟩ = some (.slice A0_4 l0_4.length c0_4) := (blk_cell BK168.out 4).trans rfl
                    have hcz40_5 : wr.cell? ⟨gb168, 5, none⟩ = some (.slice A0_5 l0_5.length c0_5) := (blk_cell BK168.out 5).trans rfl
                    have hcz40_6 : wr.cell? ⟨gb168, 6, none⟩ = some (.slice A0_6 l0_6.length c0_6) := (blk_cell BK168.out 6).trans rfl
                    have hcz40_7 : wr.cell? ⟨gb168, 7, none⟩ = some (.slice A0_7 l0_7.length c0_7) := (blk_cell BK168.out 7).trans rfl
                    have hfz40_0 := blk_frozen BK168.out 0
                    have hfz40_1 := blk_frozen BK168.out 1
                    have hfz40_2 := blk_frozen BK168.out 2
                    have hfz40_3 := blk_frozen BK168.out 3
                    have hfz40_4 := blk_frozen BK168.out 4
                    have hfz40_5 := blk_frozen BK168.out 5
                    have hfz40_6 := blk_frozen BK168.out 6
                    have hfz40_7 := blk_frozen BK168.out 7
                    have hcz41_0 : wr.cell? ⟨gb169, 0, none⟩ = some (.slice A1_0 l1_0.length c1_0) := (blk_cell BK169.out 0).trans rfl
                    have hcz41_1 : wr.cell? ⟨gb169, 1, none⟩ = some (.slice A1_1 l1_1.length c1_1) := (blk_cell BK169.out 1).trans rfl
                    have hcz41_2 : wr.cell? ⟨gb169, 2, none⟩ = some (.int .i64 a1_2) := (blk_cell BK169.out 2).trans rfl
                    have hcz41_3 : wr.cell? ⟨gb169, 3, none⟩ = some (.bool a1_3) := (blk_cell BK169.out 3).trans rfl
                    have hfz41_0 := blk_frozen BK169.out 0
                    have hfz41_1 := blk_frozen BK169.out 1
                    have hfz41_2 := blk_frozen BK169.out 2
                    have hfz41_3 := blk_frozen BK169.out 3
                    go_wp2_with (first | ((with_reducible refine gate_callee (f := 27) rfl ?_); refine goesL_ (some 60) rfl rfl Tryd.func27 (by kernel_rfl) rfl #[.agg #[.int .i64 a0_1, .int .i64 a0_2, .slice A0_3 l0_3.length c0_3, .slice A0_4 l0_4.length c0_4, .slice A0_5 l0_5.length c0_5], .int .i64 a1_2] rfl (by (try simp only [List.map_toArray, List.map_cons, List.map_nil]); first | done | rfl | (simp only [List.length_drop, List.length_take]; rfl)) ?_; (with_reducible refine (grid_Open.calls k2 a0_1 a0_2 _ _ l0_3 _ _ l0_4 _ _ l0_5 a1_2 true _ ?side1 ?side2 ?side3 ?side4 ?side5 ?side6 A37.out).mono ?_); (case side1 => repeat (first | exact (Kd.C_below HR0_3.out HB.out) | (with_reducible refine Kd.C_alloc ?_ _) | (with_reducible refine Kd.C_drewN ?_ _) | (with_reducible refine Kd.C_drew ?_))); (case side2 => exact HC0_3.out); (case side3 => repeat (first | exact (Kd.C_below HR0_4.out HB.out) | (with_reducible refine Kd.C_alloc ?_ _) | (with_reducible refine Kd.C_drewN ?_ _) | (with_reducible refine Kd.C_drew ?_))); (case side4 => exact HC0_4.out); (case side5 => repeat (first | exact (Kd.C_below HR0_5.out HB.out) | (with_reducible refine Kd.C_alloc ?_ _) | (with_reducible refine Kd.C_drewN ?_ _) | (with_reducible refine Kd.C_drew ?_))); (case side6 => exact HC0_5.out); rintro e w42 ⟨rfl, hb⟩; refine ⟨_, rfl, ?_⟩; have n0_ := Aside0.mk (blk_below (g := gb168) (o := .cells #[.string a0_0, .int .i64 a0_1, .int .i64 a0_2, .slice A0_3 l0_3.length c0_3, .slice A0_4 l0_4.length c0_4, .slice A0_5 l0_5.length c0_5, .slice A0_6 l0_6.length c0_6, .slice A0_7 l0_7.length c0_7] 27 (0, 0)) (by (with_reducible repeat (first | refine blk_drewN ?_ _ | refine blk_drew ?_ | refine blk_alloc ?_ _)); exact BK168.out) hb); have n1_ := Aside0.mk (blk_below (g := gb169) (o := .cells #[.slice A1_0 l1_0.length c1_0, .slice A1_1 l1_1.length c1_1, .int .i64 a1_2, .bool a1_3] 30 (0, 0)) (by (with_reducible repeat (first | refine blk_drewN ?_ _ | refine blk_drew ?_ | refine blk_alloc ?_ _)); exact BK169.out) hb); have n2_ := Aside0.mk (below_step (by repeat (first | (with_reducible first | exact HB.out | apply below_alloc | apply pw_below_drewN | apply below_drew1 | refine below_set ?_ GE168.out | refine below_set ?_ GE169.out) | exact HB.out)) hb); clear BK168; clear BK169; clear HB; have BK168 := n0_; have BK169 := n1_; have HB := n2_; clear n0_ n1_ n2_; (try clear hb); (try clear hb2); (try clear hk); (try clear hi)))
                    go_ret
                    exact ⟨by first | rfl | (simp [errW_none, errW_some] <;> rfl) | (simp [*, errW_none, errW_some] <;> rfl) | (exfalso; contradiction), by repeat (first | (with_reducible first | exact HB.out | apply below_alloc | apply pw_below_drewN | apply below_drew1 | refine below_set ?_ GE168.out | refine below_set ?_ GE169.out) | exact HB.out)⟩
                  · replace c38 := Bool.eq_false_iff.mpr c38
                    subst c38
                    have H1 : (some 230) = some r := by rw [if_neg (show ¬ (false = true) by decide)] at H; exact H
                    clear H
                    have H := H1
                    clear H1
                    obtain rfl := Option.some.inj H
                    have hnb43 := NB168_169.out
                    have hnc43 := NB169_168.out
                    have hcz44_0 : wr.cell? ⟨gb168, 0, none⟩ = some (.string a0_0) := (blk_cell BK168.out 0).trans rfl
                    have hcz44_1 : wr.cell? ⟨gb168, 1, none⟩ = some (.int .i64 a0_1) := (blk_cell BK168.out 1).trans rfl
                    have hcz44_2 : wr.cell? ⟨gb168, 2, none⟩ = some (.int .i64 a0_2) := (blk_cell BK168.out 2).trans rfl
                    have hcz44_3 : wr.cell? ⟨gb168, 3, none⟩ = some (.slice A0_3 l0_3.length c0_3) := (blk_cell BK168.out 3).trans rfl
                    have hcz44_4 : wr.cell? ⟨gb168, 4, none⟩ = some (.slice A0_4 l0_4.length c0_4) := (blk_cell BK168.out 4).trans rfl
                    have hcz44_5 : wr.cell? ⟨gb168, 5, none⟩ = some (.slice A0_5 l0_5.length c0_5) := (blk_cell BK168.out 5).trans rfl
                    have hcz44_6 : wr.cell? ⟨gb168, 6, none⟩ = some (.slice A0_6 l0_6.length c0_6) := (blk_cell BK168.out 6).trans rfl
                    have hcz44_7 : wr.cell? ⟨gb168, 7, none⟩ = some (.slice A0_7 l0_7.length c0_7) := (blk_cell BK168.out 7).trans rfl
                    have hfz44_0 := blk_frozen BK168.out 0
                    have hfz44_1 := blk_frozen BK168.out 1
                    have hfz44_2 := blk_frozen BK168.out 2
                    have hfz44_3 := blk_frozen BK168.out 3
                    have hfz44_4 := blk_frozen BK168.out 4
                    have hfz44_5 := blk_frozen BK168.out 5
                    have hfz44_6 := blk_frozen BK168.out 6
                    have hfz44_7 := blk_frozen BK168.out 7
                    have hcz45_0 : wr.cell? ⟨gb169, 0, none⟩ = some (.slice A1_0 l1_0.length c1_0) := (blk_cell BK169.out 0).trans rfl
                    have hcz45_1 : wr.cell? ⟨gb169, 1, none⟩ = some (.slice A1_1 l1_1.length c1_1) := (blk_cell BK169.out 1).trans rfl
                    have hcz45_2 : wr.cell? ⟨gb169, 2, none⟩ = some (.int .i64 a1_2) := (blk_cell BK169.out 2).trans rfl
                    have hcz45_3 : wr.cell? ⟨gb169, 3, none⟩ = some (.bool a1_3) := (blk_cell BK169.out 3).trans rfl
                    have hfz45_0 := blk_frozen BK169.out 0
                    have hfz45_1 := blk_frozen BK169.out 1
                    have hfz45_2 := blk_frozen BK169.out 2
                    have hfz45_3 := blk_frozen BK169.out 3
                    go_wp2_with (first | ((with_reducible refine gate_callee (f := 27) rfl ?_); refine goesL_ (some 60) rfl rfl Tryd.func27 (by kernel_rfl) rfl #[.agg #[.int .i64 a0_1, .int .i64 a0_2, .slice A0_3 l0_3.length c0_3, .slice A0_4 l0_4.length c0_4, .slice A0_5 l0_5.length c0_5], .int .i64 a1_2] rfl (by (try simp only [List.map_toArray, List.map_cons, List.map_nil]); first | done | rfl | (simp only [List.length_drop, List.length_take]; rfl)) ?_; (with_reducible refine (grid_Open.calls k2 a0_1 a0_2 _ _ l0_3 _ _ l0_4 _ _ l0_5 a1_2 false _ ?side1 ?side2 ?side3 ?side4 ?side5 ?side6 A37.out).mono ?_); (case side1 => repeat (first | exact (Kd.C_below HR0_3.out HB.out) | (with_reducible refine Kd.C_alloc ?_ _) | (with_reducible refine Kd.C_drewN ?_ _) | (with_reducible refine Kd.C_drew ?_))); (case side2 => exact HC0_3.out); (case side3 => repeat (first | exact (Kd.C_below HR0_4.out HB.out) | (with_reducible refine Kd.C_alloc ?_ _) | (with_reducible refine Kd.C_drewN ?_ _) | (with_reducible refine Kd.C_drew ?_))); (case side4 => exact HC0_4.out); (case side5 => repeat (first | exact (Kd.C_below HR0_5.out HB.out) | (with_reducible refine Kd.C_alloc ?_ _) | (with_reducible refine Kd.C_drewN ?_ _) | (with_reducible refine Kd.C_drew ?_))); (case side6 => exact HC0_5.out); rintro e w46 ⟨rfl, hb⟩; refine ⟨_, rfl, ?_⟩; have n0_ := Aside0.mk (blk_below (g := gb168) (o := .cells #[.string a0_0, .int .i64 a0_1, .int .i64 a0_2, .slice A0_3 l0_3.length c0_3, .slice A0_4 l0_4.length c0_4, .slice A0_5 l0_5.length c0_5, .slice A0_6 l0_6.length c0_6, .slice A0_7 l0_7.length c0_7] 27 (0, 0)) (by (with_reducible repeat (first | refine blk_drewN ?_ _ | refine blk_drew ?_ | refine blk_alloc ?_ _)); exact BK168.out) hb); have n1_ := Aside0.mk (blk_below (g := gb169) (o := .cells #[.slice A1_0 l1_0.length c1_0, .slice A1_1 l1_1.length c1_1, .int .i64 a1_2, .bool a1_3] 30 (0, 0)) (by (with_reducible repeat (first | refine blk_drewN ?_ _ | refine blk_drew ?_ | refine blk_alloc ?_ _)); exact BK169.out) hb); have n2_ := Aside0.mk (below_step (by repeat (first | (with_reducible first | exact HB.out | apply below_alloc | apply pw_below_drewN | apply below_drew1 | refine below_set ?_ GE168.out | refine below_set ?_ GE169.out) | exact HB.out)) hb); clear BK168; clear BK169; clear HB; have BK168 := n0_; have BK169 := n1_; have HB := n2_; clear n0_ n1_ n2_; (try clear hb); (try clear hb2); (try clear hk); (try clear hi)))
                    go_ret
                    exact ⟨by first | rfl | (simp [errW_none, errW_some] <;> rfl) | (simp [*, errW_none, errW_some] <;> rfl) | (exfalso; contradiction), by repeat (first | (with_reducible first | exact HB.out | apply below_alloc | apply pw_below_drewN | apply below_drew1 | refine below_set ?_ GE168.out | refine below_set ?_ GE169.out) | exact HB.out)⟩
          · rw [if_neg c20] at H
            have c20b0 : (t171 == 0) = false := beq_eq_false_iff_ne.mpr c20
            have c20b1 : (t171 != 0) = true := bne_iff_ne.mpr c20
            obtain rfl := Option.some.inj H
            have hnb47 := NB168_169.out
            have hnc47 := NB169_168.out
            have hcz48_0 : wc.cell? ⟨gb168, 0, none⟩ = some (.string a0_0) := (blk_cell BK168.out 0).trans rfl
            have hcz48_1 : wc.cell? ⟨gb168, 1, none⟩ = some (.int .i64 a0_1) := (blk_cell BK168.out 1).trans rfl
            have hcz48_2 : wc.cell? ⟨gb168, 2, none⟩ = some (.int .i64 a0_2) := (blk_cell BK168.out 2).trans rfl
            have hcz48_3 : wc.cell? ⟨gb168, 3, none⟩ = some (.slice A0_3 l0_3.length c0_3) := (blk_cell BK168.out 3).trans rfl
            have hcz48_4 : wc.cell? ⟨gb168, 4, none⟩ = some (.slice A0_4 l0_4.length c0_4) := (blk_cell BK168.out 4).trans rfl
            have hcz48_5 : wc.cell? ⟨gb168, 5, none⟩ = some (.slice A0_5 l0_5.length c0_5) := (blk_cell BK168.out 5).trans rfl
            have hcz48_6 : wc.cell? ⟨gb168, 6, none⟩ = some (.slice A0_6 l0_6.length c0_6) := (blk_cell BK168.out 6).trans rfl
            have hcz48_7 : wc.cell? ⟨gb168, 7, none⟩ = some (.slice A0_7 l0_7.length c0_7) := (blk_cell BK168.out 7).trans rfl
            have hfz48_0 := blk_frozen BK168.out 0
            have hfz48_1 := blk_frozen BK168.out 1
            have hfz48_2 := blk_frozen BK168.out 2
            have hfz48_3 := blk_frozen BK168.out 3
            have hfz48_4 := blk_frozen BK168.out 4
            have hfz48_5 := blk_frozen BK168.out 5
            have hfz48_6 := blk_frozen BK168.out 6
            have hfz48_7 := blk_frozen BK168.out 7
            have hcz49_0 : wc.cell? ⟨gb169, 0, none⟩ = some (.slice A1_0 l1_0.length c1_0) := (blk_cell BK169.out 0).trans rfl
            have hcz49_1 : wc.cell? ⟨gb169, 1, none⟩ = some (.slice A1_1 l1_1.length c1_1) := (blk_cell BK169.out 1).trans rfl
            have hcz49_2 : wc.cell? ⟨gb169, 2, none⟩ = some (.int .i64 a1_2) := (blk_cell BK169.out 2).trans rfl
            have hcz49_3 : wc.cell? ⟨gb169, 3, none⟩ = some (.bool a1_3) := (blk_cell BK169.out 3).trans rfl
            have hfz49_0 := blk_frozen BK169.out 0
            have hfz49_1 := blk_frozen BK169.out 1
            have hfz49_2 := blk_frozen BK169.out 2
            have hfz49_3 := blk_frozen BK169.out 3
            go_wp2_with (first | ((with_reducible refine gate_callee (f := 20) rfl ?_); refine goesL_ (some 36) rfl rfl Tryd.func20 (by kernel_rfl) rfl #[.agg #[.string (⟨#[]⟩ : ByteArray), .int .i64 a0_1, .int .i64 a0_2, .slice A0_3 l0_3.length c0_3, .slice A0_4 l0_4.length c0_4, .slice A0_5 l0_5.length c0_5, .slice A1_0 l1_0.length c1_0, .slice A0_7 l0_7.length c0_7]] rfl (by (try simp only [List.map_toArray, List.map_cons, List.map_nil]); first | done | rfl | (simp only [List.length_drop, List.length_take]; rfl)) ?_; (with_reducible refine (page_Check.calls kj4 (⟨#[]⟩ : ByteArray) a0_1 a0_2 _ _ l0_3 _ _ l0_4 _ _ l0_5 _ _ l1_0 _ _ l0_7 t171 _ ?side1 ?side2 ?side3 ?side4 ?side5 ?side6 ?side7 ?side8 ?side9 ?side10 ?side11 A19.out).mono ?_); (case side1 => repeat (first | exact (Kd.C_below HR0_3.out HB.out) | (with_reducible refine Kd.C_alloc ?_ _) | (with_reducible refine Kd.C_drewN ?_ _) | (with_reducible refine Kd.C_drew ?_))); (case side2 => exact HC0_3.out); (case side3 => repeat (first | exact (Kd.C_below HR0_4.out HB.out) | (with_reducible refine Kd.C_alloc ?_ _) | (with_reducible refine Kd.C_drewN ?_ _) | (with_reducible refine Kd.C_drew ?_))); (case side4 => exact HC0_4.out); (case side5 => repeat (first | exact (Kd.C_below HR0_5.out HB.out) | (with_reducible refine Kd.C_alloc ?_ _) | (with_reducible refine Kd.C_drewN ?_ _) | (with_reducible refine Kd.C_drew ?_))); (case side6 => exact HC0_5.out); (case side7 => repeat (first | exact (Kd.C_below HR1_0.out HB.out) | (with_reducible refine Kd.C_alloc ?_ _) | (with_reducible refine Kd.C_drewN ?_ _) | (with_reducible refine Kd.C_drew ?_))); (case side8 => exact HC1_0.out); (case side9 => repeat (first | exact (Kd.C_below HR0_7.out HB.out) | (with_reducible refine Kd.C_alloc ?_ _) | (with_reducible refine Kd.C_drewN ?_ _) | (with_reducible refine Kd.C_drew ?_))); (case side10 => exact HC0_7.out); (case side11 => exact tabs_below HT.out (by repeat (first | (with_reducible first | exact HB.out | apply below_alloc | apply pw_below_drewN | apply below_drew1 | refine below_set ?_ GE168.out | refine below_set ?_ GE169.out) | exact HB.out))); rintro e w50 ⟨rfl, hb⟩; refine ⟨_, rfl, ?_⟩; have n0_ := Aside0.mk (blk_below (g := gb168) (o := .cells #[.string a0_0, .int .i64 a0_1, .int .i64 a0_2, .slice A0_3 l0_3.length c0_3, .slice A0_4 l0_4.length c0_4, .slice A0_5 l0_5.length c0_5, .slice A0_6 l0_6.length c0_6, .slice A0_7 l0_7.length c0_7] 27 (0, 0)) (by (with_reducible repeat (first | refine blk_drewN ?_ _ | refine blk_drew ?_ | refine blk_alloc ?_ _)); exact BK168.out) hb); have n1_ := Aside0.mk (blk_below (g := gb169) (o := .cells #[.slice A1_0 l1_0.length c1_0, .slice A1_1 l1_1.length c1_1, .int .i64 a1_2, .bool a1_3] 30 (0, 0)) (by (with_reducible repeat (first | refine blk_drewN ?_ _ | refine blk_drew ?_ | refine blk_alloc ?_ _)); exact BK169.out) hb); have n2_ := Aside0.mk (below_step (by repeat (first | (with_reducible first | exact HB.out | apply below_alloc | apply pw_below_drewN | apply below_drew1 | refine below_set ?_ GE168.out | refine below_set ?_ GE169.out) | exact HB.out)) hb); clear BK168; clear BK169; clear HB; have BK168 := n0_; have BK169 := n1_; have HB := n2_; clear n0_ n1_ n2_; (try clear hb); (try clear hb2); (try clear hk); (try clear hi)))
            go_ret
            exact ⟨by first | rfl | (simp [errW_none, errW_some] <;> rfl) | (simp [*, errW_none, errW_some] <;> rfl) | (exfalso; contradiction), by repeat (first | (with_reducible first | exact HB.out | apply below_alloc | apply pw_below_drewN | apply below_drew1 | refine below_set ?_ GE168.out | refine below_set ?_ GE169.out) | exact HB.out)⟩
  · rw [if_neg c4] at H
    have c4b0 : (t170 == 0) = false := beq_eq_false_iff_ne.mpr c4
    have c4b1 : (t170 != 0) = true := bne_iff_ne.mpr c4
    obtain rfl := Option.some.inj H
    go_enter Tryd.func13, Tryd.ntmps13
    go_wp2_with (first | ((with_reducible refine gate_dst (N := 2) rfl ?_); (try (refine gate_guard (by rfl) ?_; dsimp only)); refine box_event ?hg (N := 2) ?hd (cs := #[.string a0_0, .int .i64 a0_1, .int .i64 a0_2, .slice A0_3 l0_3.length c0_3, .slice A0_4 l0_4.length c0_4, .slice A0_5 l0_5.length c0_5, .slice A0_6 l0_6.length c0_6, .slice A0_7 l0_7.length c0_7]) (t := 27) ?hr ?_; (case hd => rfl); (case hg => rfl); (case hr => first | (go_simp; done) | (go_simp; rfl)); intro gb168 hg w51 hbox hb; have n0_ := Aside0.mk (below_step (by repeat (first | (with_reducible first | exact HB.out | apply below_alloc | apply pw_below_drewN | apply below_drew1) | exact HB.out)) hb); have n1_ := Aside0.mk (hbox); have n2_ := Aside0.mk ((by rw [hg]; exact (below_size (by repeat (first | (with_reducible first | exact HB.out | apply below_alloc | apply pw_below_drewN | apply below_drew1) | exact HB.out))) : w.heap.size ≤ gb168)); have n3_ := Aside0.mk ((by rw [hg]; exact (below_size (by repeat (first | (with_reducible first | exact HB.out | apply below_alloc | apply pw_below_drewN | apply below_drew1) | exact HB.out))) : w.heap.size ≤ gb168)); clear HB; have HB := n0_; have BK168 := n1_; have GW168 := n2_; have GE168 := n3_; clear n0_ n1_ n2_ n3_; clear hb hbox hg) | ((with_reducible refine gate_dst (N := 3) rfl ?_); (try (refine gate_guard (by rfl) ?_; dsimp only)); refine box_event ?hg (N := 3) ?hd (cs := #[.slice A1_0 l1_0.length c1_0, .slice A1_1 l1_1.length c1_1, .int .i64 a1_2, .bool a1_3]) (t := 30) ?hr ?_; (case hd => rfl); (case hg => rfl); (case hr => first | (go_simp; done) | (go_simp; rfl)); intro gb169 hg w52 hbox hb; have n0_ := Aside0.mk (blk_below (g := gb168) (o := .cells #[.string a0_0, .int .i64 a0_1, .int .i64 a0_2, .slice A0_3 l0_3.length c0_3, .slice A0_4 l0_4.length c0_4, .slice A0_5 l0_5.length c0_5, .slice A0_6 l0_6.length c0_6, .slice A0_7 l0_7.length c0_7] 27 (0, 0)) (by (with_reducible repeat (first | refine blk_drewN ?_ _ | refine blk_drew ?_ | refine blk_alloc ?_ _)); exact BK168.out) hb); have n1_ := Aside0.mk (below_step (by repeat (first | (with_reducible first | exact HB.out | apply below_alloc | apply pw_below_drewN | apply below_drew1 | refine below_set ?_ GE168.out) | exact HB.out)) hb); have n2_ := Aside0.mk (hbox); have n3_ := Aside0.mk ((by rw [hg]; exact (below_size (by repeat (first | (with_reducible first | exact HB.out | apply below_alloc | apply pw_below_drewN | apply below_drew1 | refine below_set ?_ GE168.out) | exact HB.out))) : w.heap.size ≤ gb169)); have n4_ := Aside0.mk ((by rw [hg]; exact (below_size (by repeat (first | (with_reducible first | exact HB.out | apply below_alloc | apply pw_below_drewN | apply below_drew1 | refine below_set ?_ GE168.out) | exact HB.out))) : w.heap.size ≤ gb169)); have n5_ := Aside0.mk ((by rw [hg]; exact Nat.ne_of_lt (blk_lt (g := gb168) (o := .cells #[.string a0_0, .int .i64 a0_1, .int .i64 a0_2, .slice A0_3 l0_3.length c0_3, .slice A0_4 l0_4.length c0_4, .slice A0_5 l0_5.length c0_5, .slice A0_6 l0_6.length c0_6, .slice A0_7 l0_7.length c0_7] 27 (0, 0)) (by (with_reducible repeat (first | refine blk_drewN ?_ _ | refine blk_drew ?_ | refine blk_alloc ?_ _)); exact BK168.out)) : gb168 ≠ gb169)); have n6_ := Aside0.mk ((by rw [hg]; exact Nat.ne_of_gt (blk_lt (g := gb168) (o := .cells #[.string a0_0, .int .i64 a0_1, .int .i64 a0_2, .slice A0_3 l0_3.length c0_3, .slice A0_4 l0_4.length c0_4, .slice A0_5 l0_5.length c0_5, .slice A0_6 l0_6.length c0_6, .slice A0_7 l0_7.length c0_7] 27 (0, 0)) (by (with_reducible repeat (first | refine blk_drewN ?_ _ | refine blk_drew ?_ | refine blk_alloc ?_ _)); exact BK168.out)) : gb169 ≠ gb168)); clear BK168; clear HB; have BK168 := n0_; have HB := n1_; have BK169 := n2_; have GW169 := n3_; have GE169 := n4_; have NB168_169 := n5_; have NB169_168 := n6_; clear n0_ n1_ n2_ n3_ n4_ n5_ n6_; clear hb hbox hg; have hnb53 := NB168_169.out; have hnc53 := NB169_168.out; have hcz54_0 : w52.cell? ⟨gb168, 0, none⟩ = some (.string a0_0) := (blk_cell BK168.out 0).trans rfl; have hcz54_1 : w52.cell? ⟨gb168, 1, none⟩ = some (.int .i64 a0_1) := (blk_cell BK168.out 1).trans rfl; have hcz54_2 : w52.cell? ⟨gb168, 2, none⟩ = some (.int .i64 a0_2) := (blk_cell BK168.out 2).trans rfl; have hcz54_3 : w52.cell? ⟨gb168, 3, none⟩ = some (.slice A0_3 l0_3.length c0_3) := (blk_cell BK168.out 3).trans rfl; have hcz54_4 : w52.cell? ⟨gb168, 4, none⟩ = some (.slice A0_4 l0_4.length c0_4) := (blk_cell BK168.out 4).trans rfl; have hcz54_5 : w52.cell? ⟨gb168, 5, none⟩ = some (.slice A0_5 l0_5.length c0_5) := (blk_cell BK168.out 5).trans rfl; have hcz54_6 : w52.cell? ⟨gb168, 6, none⟩ = some (.slice A0_6 l0_6.length c0_6) := (blk_cell BK168.out 6).trans rfl; have hcz54_7 : w52.cell? ⟨gb168, 7, none⟩ = some (.slice A0_7 l0_7.length c0_7) := (blk_cell BK168.out 7).trans rfl; have hfz54_0 := blk_frozen BK168.out 0; have hfz54_1 := blk_frozen BK168.out 1; have hfz54_2 := blk_frozen BK168.out 2; have hfz54_3 := blk_frozen BK168.out 3; have hfz54_4 := blk_frozen BK168.out 4; have hfz54_5 := blk_frozen BK168.out 5; have hfz54_6 := blk_frozen BK168.out 6; have hfz54_7 := blk_frozen BK168.out 7) | ((with_reducible refine gate_callee (f := 20) rfl ?_); refine goesL_ (some 9) rfl rfl Tryd.func20 (by kernel_rfl) rfl #[.agg #[.string a0_0, .int .i64 a0_1, .int .i64 a0_2, .slice A0_3 l0_3.length c0_3, .slice A0_4 l0_4.length c0_4, .slice A0_5 l0_5.length c0_5, .slice A0_6 l0_6.length c0_6, .slice A0_7 l0_7.length c0_7]] rfl (by (try simp only [List.map_toArray, List.map_cons, List.map_nil]); first | done | rfl | (simp only [List.length_drop, List.length_take]; rfl)) ?_; (with_reducible refine (page_Check.calls k a0_0 a0_1 a0_2 _ _ l0_3 _ _ l0_4 _ _ l0_5 _ _ l0_6 _ _ l0_7 t170 _ ?side1 ?side2 ?side3 ?side4 ?side5 ?side6 ?side7 ?side8 ?side9 ?side10 ?side11 A3.out).mono ?_); (case side1 => repeat (first | exact (Kd.C_below HR0_3.out HB.out) | (with_reducible refine Kd.C_alloc ?_ _) | (with_reducible refine Kd.C_drewN ?_ _) | (with_reducible refine Kd.C_drew ?_))); (case side2 => exact HC0_3.out); (case side3 => repeat (first | exact (Kd.C_below HR0_4.out HB.out) | (with_reducible refine Kd.C_alloc ?_ _) | (with_reducible refine Kd.C_drewN ?_ _) | (with_reducible refine Kd.C_drew ?_))); (case side4 => exact HC0_4.out); (case side5 => repeat (first | exact (Kd.C_below HR0_5.out HB.out) | (with_reducible refine Kd.C_alloc ?_ _) | (with_reducible refine Kd.C_drewN ?_ _) | (with_reducible refine Kd.C_drew ?_))); (case side6 => exact HC0_5.out); (case side7 => repeat (first | exact (Kd.C_below HR0_6.out HB.out) | (with_reducible refine Kd.C_alloc ?_ _) | (with_reducible refine Kd.C_drewN ?_ _) | (with_reducible refine Kd.C_drew ?_))); (case side8 => exact HC0_6.out); (case side9 => repeat (first | exact (Kd.C_below HR0_7.out HB.out) | (with_reducible refine Kd.C_alloc ?_ _) | (with_reducible refine Kd.C_drewN ?_ _) | (with_reducible refine Kd.C_drew ?_))); (case side10 => exact HC0_7.out); (case side11 => exact tabs_below HT.out (by repeat (first | (with_reducible first | exact HB.out | apply below_alloc | apply pw_below_drewN | apply below_drew1 | refine below_set ?_ GE168.out | refine below_set ?_ GE169.out) | exact HB.out))); rintro e w55 ⟨rfl, hb⟩; refine ⟨_, rfl, ?_⟩; have n0_ := Aside0.mk (blk_below (g := gb168) (o := .cells #[.string a0_0, .int .i64 a0_1, .int .i64 a0_2, .slice A0_3 l0_3.length c0_3, .slice A0_4 l0_4.length c0_4, .slice A0_5 l0_5.length c0_5, .slice A0_6 l0_6.length c0_6, .slice A0_7 l0_7.length c0_7] 27 (0, 0)) (by (with_reducible repeat (first | refine blk_drewN ?_ _ | refine blk_drew ?_ | refine blk_alloc ?_ _)); exact BK168.out) hb); have n1_ := Aside0.mk (blk_below (g := gb169) (o := .cells #[.slice A1_0 l1_0.length c1_0, .slice A1_1 l1_1.length c1_1, .int .i64 a1_2, .bool a1_3] 30 (0, 0)) (by (with_reducible repeat (first | refine blk_drewN ?_ _ | refine blk_drew ?_ | refine blk_alloc ?_ _)); exact BK169.out) hb); have n2_ := Aside0.mk (below_step (by repeat (first | (with_reducible first | exact HB.out | apply below_alloc | apply pw_below_drewN | apply below_drew1 | refine below_set ?_ GE168.out | refine below_set ?_ GE169.out) | exact HB.out)) hb); clear BK168; clear BK169; clear HB; have BK168 := n0_; have BK169 := n1_; have HB := n2_; clear n0_ n1_ n2_; (try clear hb); (try clear hb2); (try clear hk); (try clear hi)))
    go_ret
    exact ⟨by first | rfl | (simp [errW_none, errW_some] <;> rfl) | (simp [*, errW_none, errW_some] <;> rfl) | (exfalso; contradiction), by repeat (first | (with_reducible first | exact HB.out | apply below_alloc | apply pw_below_drewN | apply below_drew1 | refine below_set ?_ GE168.out | refine below_set ?_ GE169.out) | exact HB.out)⟩
end Go.Proofs.YtiipailmldbpbaaDoor.Q
