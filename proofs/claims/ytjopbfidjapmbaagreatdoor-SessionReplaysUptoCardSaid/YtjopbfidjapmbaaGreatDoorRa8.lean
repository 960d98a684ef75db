/- PART 8 OF A PROOF: Lean functions, and that the program computes them; written by hand and by a program. Not trusted: Lean checks it. -/
import Derived.Test.YtjopbfidjapmbaaGreatDoorRa3
import Derived.Test.YtjopbfidjapmbaaGreatDoorRa4
import Derived.Test.YtjopbfidjapmbaaGreatDoorRa6
import Derived.Test.YtjopbfidjapmbaaGreatDoorRa7
set_option linter.unusedVariables false
set_option linter.unusedSimpArgs false
section
namespace Go.Proofs.YtjopbfidjapmbaaGreatDoor.Q
open Go.RowKit Go.Proofs.YtjopbfidjapmbaaGreatDoorW.PrintWords Go.Proofs.YtjopbfidjapmbaaGreatDoorW.PrintLast Go.Proofs.YtjopbfidjapmbaaGreatDoorW.PrintMore
attribute [local go_sem] max2_int min2_int max_two min_two max_three min_three max_four min_four
set_option linter.unusedVariables false
set_option linter.unusedSimpArgs false
open Go.Proofs.YtjopbfidjapmbaaGreatDoorS
def slotOf (x : Int × Bool × List Int) : S137 := ⟨x.1, x.2.1, x.2.2⟩
def slotsOf (H W : Int) (bl ri be : List Bool) : List S137 := if gcheck H W bl ri be = 0 then (gslotsAll H W bl ri be).map slotOf else []
def slots_List.f (H W : Int) (bl ri be : List Bool) : Option (List S137) := some (slotsOf H W bl ri be)
theorem slot_info : (Tryz.prog.info? 137).map (fun i => (i.zero, i.size, i.bytes)) = some (some (.agg #[(.int .i64 0), (.bool false), (.slice none 0 0)]), 3, 40) := by kernel_rfl
theorem meas_step {i n : Nat} {j : Int} (h : i < n) (hj : (i : Int) + 1 = j) : n - j.toNat < n - ((i : Int)).toNat := by omega
theorem run_apart {β : Type} {d : Kd β} {e base : Nat} {w w1 : World} {v v2 : Value} {xs : List β} {ys : List Int} (hS : Kd.S d e w base (fun _ => True) v xs) (hR : Kd.R (Kd.int .i64) 3 w1 w.heap.size (fun _ => True) v2 ys) (hb : Below w.heap.size w w1) : Kd.S d e w1 base (fun k => True ∧ ¬ some k = v2.ownBlock) v xs :=
 Kd.S_mono (Kd.S_below (Kd.S_bound hS) hb) (fun k hk => ⟨trivial, fun h => by have := Kd.R_base hR k h.symm; have := hk.2.2.1; omega⟩)
theorem new_blk (w : World) (o : Obj) : (w.alloc o).heap[w.heap.size]? = some o := by show (w.heap.push o)[w.heap.size]? = some o; simp
theorem GridBox.of {b : Nat} {H W : Int} {A2 : Option Addr} {c2 : Nat} {bl : List Bool} {A3 : Option Addr} {c3 : Nat} {ri : List Bool} {A4 : Option Addr} {c4 : Nat} {be : List Bool} {w : World} {t : Nat}
  (h : w.heap[b]? = some (.cells #[.int .i64 H, .int .i64 W, .slice A2 bl.length c2, .slice A3 ri.length c3, .slice A4 be.length c4] t (0, 0))) : GridBox b H W A2 c2 bl A3 c3 ri A4 c4 be w :=
 ⟨(blk_cell h 0).trans rfl, (blk_cell h 1).trans rfl, (blk_cell h 2).trans rfl, (blk_cell h 3).trans rfl, (blk_cell h 4).trans rfl⟩
set_option maxHeartbeats 8000000 in
set_option maxRecDepth 1000000 in
theorem slots_List.calls (H W : Int) (A2 : Option Addr) (c2 : Nat) (bl : List Bool) (A3 : Option Addr) (c3 : Nat) (ri : List Bool) (A4 : Option Addr) (c4 : Nat) (be : List Bool) (r : List S137) (w : World)
  (h2 : Kd.C Kd.bool w A2 bl.length bl) (hc2 : bl.length ≤ c2) (h3 : Kd.C Kd.bool w A3 ri.length ri) (hc3 : ri.length ≤ c3) (h4 : Kd.C Kd.bool w A4 be.length be) (hc4 : be.length ≤ c4) (h : slots_List.f H W bl ri be = some r) :
  Calls Tryz.prog 61 #[.agg #[.int .i64 H, .int .i64 W, .slice A2 bl.length c2, .slice A3 ri.length c3, .slice A4 be.length c4]] w fun e w' => ∃ v0_ : Value, e = .returned (v0_) ∧ Kd.S k137 137 w' w.heap.size (fun _ => True) v0_ r ∧ Below w.heap.size w w' := by
 have hr : r = slotsOf H W bl ri be := (Option.some.inj h).symm
 clear h
 have hck := grid_Check_eq H W bl ri be (bl.length + 3) (Nat.le_refl _)
 by_cases hok : gcheck H W bl ri be = 0
 ·have hrr : r = (gslots H W bl ri be bl.length 0 0).map slotOf := by rw [hr]; unfold slotsOf; rw [if_pos hok]; rfl
  have hg : GridIs H W A2 c2 bl A3 c3 ri A4 c4 be w := ⟨h2, hc2, h3, hc3, h4, hc4, hok⟩
  have hn : bl.length ≤ 256 := by have := (mul_small (gcheck_ok hok).1 (gcheck_ok hok).2.1).2; have := (gcheck_ok hok).2.2.1; omega
  rw [hok] at hck
  replace hn := Lib.hid hn
  replace hok := Lib.hid hok
  clear hr
  replace hrr := Lib.hid hrr
  replace hck := Lib.hid hck
  go_enter Tryz.func61, Tryz.ntmps61
  go_wp2_with (go_at_call 59; go_loud (refine (grid_Check.calls _ _ _ _ _ _ _ _ _ _ _ _ _ _ (Kd.C_below h2 (below_alloc (Below.refl _ _) _)) hc2 (Kd.C_below h3 (below_alloc (Below.refl _ _) _)) hc3 (Kd.C_below h4 (below_alloc (Below.refl _ _) _)) hc4 hck.out).mono ?_; rintro e w3 ⟨rfl, hb3⟩; have hBK0 : w3.heap[w.heap.size]? = some (.cells #[.int .i64 H, .int .i64 W, .slice A2 bl.length c2, .slice A3 ri.length c3, .slice A4 be.length c4] 39 (0, 0)) := (hb3.block _ (by show _ < (w.heap.push _).size; simp)).trans (new_blk _ _); have hB0 : Below w.heap.size w w3 := (below_alloc (Below.refl _ _) _).trans (hb3.mono (below_alloc (Below.refl _ _) _).size); have hz0 := (GridBox.of hBK0).2.2.1))
  clear hz0 hb3
  replace hBK0 := Lib.hid hBK0
  replace hB0 := Lib.hid hB0
  go_loopw [3, 5, 20] (fun v3 v5 v20 wr => ∃ (i : Nat) (xs : List S137) (num : Int), v20 = .int .i64 (i : Int) ∧ v5 = .int .i64 num ∧ Hid (i ≤ bl.length) ∧ Hid (0 ≤ num ∧ num ≤ i ∧ xs.length ≤ 2 * i) ∧ Hid (r = xs ++ (gslots H W bl ri be (bl.length - i) i num).map slotOf) ∧ Hid (Kd.S k137 137 wr w.heap.size (fun _ => True) v3 xs) ∧ Hid (wr.heap[w.heap.size]? = some (.cells #[.int .i64 H, .int .i64 W, .slice A2 bl.length c2, .slice A3 ri.length c3, .slice A4 be.length c4] 39 (0, 0))) ∧ Hid (Below w.heap.size w wr)) (fun _ _ v20 _ => bl.length - (intOf v20).toNat)
  case atStart => exact ⟨0, [], 0, rfl, rfl, Lib.hid (Nat.zero_le _), Lib.hid ⟨by omega, by omega, by simp⟩, Lib.hid (by simpa using hrr.out), Lib.hid (Kd.S_nil _ _ _ _ _), hBK0, hB0⟩
  case round =>
   clear hBK0 hB0 hrr
   obtain ⟨i, xs, num, rfl, rfl, hi, hnx, he, hS, hBK, hB⟩ := hrel
   by_cases hlt : i < bl.length
   ·have tlt : decide ((i : Int) < (bl.length : Int)) = true := decide_eq_true (by omega)
    have tltn : decide (i < bl.length) = true := decide_eq_true hlt
    obtain ⟨d, hd⟩ : ∃ d, bl.length - i = d + 1 := ⟨bl.length - i - 1, by omega⟩
    obtain ⟨ysE, hysE⟩ : ∃ l, (gways H W bl ri be i 2 0 false num) = l := ⟨_, rfl⟩
    obtain ⟨nE, hnE⟩ : ∃ l, (gwaysN H W bl ri be i 2 0 false num) = l := ⟨_, rfl⟩
    have he2 : r = xs ++ (ysE.map slotOf ++ (gslots H W bl ri be d ((i + 1 : Nat)) nE).map slotOf) := by rw [he.out, hd, gslots_ways, hysE, hnE, List.map_append]
    replace he2 := Lib.hid he2
    replace hd := Lib.hid hd
    replace hysE := Lib.hid hysE
    replace hnE := Lib.hid hnE
    clear he
    replace hlt := Lib.hid hlt
    go_wp2
    go_step3
    go_wp2
    go_step3
    go_wp2
    go_hide hQ
    go_loopw [3, 5, 7, 23] (fun v3 v5 v7 v23 wi => ∃ (d2 : Nat) (way : Int) (b : Bool) (n : Int) (ys : List (Int × Bool × List Int)), v23 = .int .i64 way ∧ v7 = .bool b ∧ v5 = .int .i64 n ∧ Hid ((d2 : Int) + way = 2 ∧ 0 ≤ way) ∧ Hid (0 ≤ n ∧ n ≤ i + 1 ∧ (b = false → n ≤ i) ∧ (xs ++ ys.map slotOf).length ≤ 2 * i + way.toNat) ∧ Hid (ys ++ gways H W bl ri be i d2 way b n = ysE) ∧ Hid (gwaysN H W bl ri be i d2 way b n = nE) ∧ Hid (Kd.S k137 137 wi w.heap.size (fun _ => True) v3 (xs ++ ys.map slotOf)) ∧ Hid (wi.heap[w.heap.size]? = some (.cells #[.int .i64 H, .int .i64 W, .slice A2 bl.length c2, .slice A3 ri.length c3, .slice A4 be.length c4] 39 (0, 0))) ∧ Hid (Below w.heap.size w wi)) (fun _ _ _ v23 _ => 2 - (intOf v23).toNat)
    case atStart => exact ⟨2, 0, false, num, [], rfl, rfl, rfl, Lib.hid ⟨by omega, by omega⟩, Lib.hid ⟨hnx.out.1, by have := hnx.out; omega, fun _ => hnx.out.2.1, by have := hnx.out; simp; omega⟩, Lib.hid (by simpa using hysE.out), hnE, Lib.hid (by simpa using hS.out), hBK, hB⟩
    case round =>
     clear hS hBK hB
     obtain ⟨d2, way, b, n, ys, rfl, rfl, rfl, hdw, hnb, hy, hnn, hS, hBK, hB⟩ := hrel
     by_cases hw2 : way < 2
     ·have tw : decide (way < 2) = true := decide_eq_true hw2
      obtain ⟨d2, rfl⟩ : ∃ d', d2 = d' + 1 := ⟨d2 - 1, by have := hdw.out; omega⟩
      have hwc : way = 0 ∨ way = 1 := by have := hdw.out; omega
      have hgr := hg.below hB.out
      obtain ⟨b0, b1, b2, b3, b4⟩ := GridBox.of hBK.out
      have hs1 := grid_Step_eq H W bl ri be i (wrap64 (way + 2)) (bl.length + 3) (Nat.le_refl _) hg.ok (by rw [w64 (by omega) (by omega)]; omega)
      have hs2 := grid_Step_eq H W bl ri be i way (bl.length + 3) (Nat.le_refl _) hg.ok (by omega)
      have hgb : gbegins H W bl ri be i way = (!(gStep H W bl ri be i (way + 2)).2 && (gStep H W bl ri be i way).2) := rfl
      have ew1 : wrap64 (way + 1) = way + 1 := w64 (by omega) (by omega)
      have ew2 : wrap64 (way + 2) = way + 2 := w64 (by omega) (by omega)
      rw [← ew2] at hgb
      clear ew2
      replace ew1 := Lib.hid ew1
      replace hwc := Lib.hid hwc
      replace hw2 := Lib.hid hw2
      cases hb1 : (gStep H W bl ri be i (wrap64 (way + 2))).2 with
      | true =>
       rw [hb1] at hs1
       rw [hb1] at hgb
       simp only [Bool.not_true, Bool.false_and] at hgb
       replace hs1 := Lib.hid hs1
       replace hgb := Lib.hid hgb
       clear hs2
       replace hb1 := Lib.hid hb1
       go_wp2_with (go_at_call 85; refine (grid_Step.calls _ _ _ _ _ _ _ _ _ _ _ _ _ _ _ _ _ hgr.h2 hgr.c2 hgr.h3 hgr.c3 hgr.h4 hgr.c4 hs1.out).mono ?_; rintro e w5 ⟨rfl, hb3⟩)
       go_roundw
       case measure => simp only [intOf]; rw [ew1.out]; have := hdw.out; have := hw2.out; omega
       case rel => exact ⟨d2, wrap64 (way + 1), b, n, ys, rfl, rfl, rfl, Lib.hid (by rw [ew1.out]; have := hdw.out; omega), Lib.hid (by rw [ew1.out]; have a1 := hnb.out; have a2 := hdw.out; exact ⟨a1.1, a1.2.1, a1.2.2.1, by omega⟩), Lib.hid (by rw [ew1.out]; have e1 := hy.out; simp only [gways, hgb.out] at e1; simpa using e1), Lib.hid (by rw [ew1.out]; have e1 := hnn.out; simp only [gwaysN, hgb.out] at e1; simpa using e1), Lib.hid (Kd.S_below hS.out hb3), Lib.hid ((hb3.block _ (blk_lt hBK.out)).trans hBK.out), Lib.hid (hB.out.trans (hb3.mono hB.out.size))⟩
      | false =>
       rw [hb1] at hs1
       rw [hb1] at hgb
       simp only [Bool.not_false, Bool.true_and] at hgb
       replace hs1 := Lib.hid hs1
       replace hb1 := Lib.hid hb1
       cases hb2 : (gStep H W bl ri be i way).2 with
       | false =>
        rw [hb2] at hs2
        rw [hb2] at hgb
        replace hs2 := Lib.hid hs2
        replace hgb := Lib.hid hgb
        replace hb2 := Lib.hid hb2
        go_wp2_with (first | (go_at_call 85; refine (grid_Step.calls _ _ _ _ _ _ _ _ _ _ _ _ _ _ _ _ _ (hgr5).h2 hgr.c2 (hgr5).h3 hgr.c3 (hgr5).h4 hgr.c4 hs2.out).mono ?_; rintro e w6 ⟨rfl, hb33⟩; have hb4 := hb3.trans (hb33.mono hb3.size)) | (go_at_call 85; refine (grid_Step.calls _ _ _ _ _ _ _ _ _ _ _ _ _ _ _ _ _ (hgr).h2 hgr.c2 (hgr).h3 hgr.c3 (hgr).h4 hgr.c4 hs1.out).mono ?_; rintro e w5 ⟨rfl, hb3⟩; have hgr5 := hgr.below hb3; have hBK5 := Lib.hid ((hb3.block _ (blk_lt hBK.out)).trans hBK.out); obtain ⟨b0, b1, b2, b3, b4⟩ := GridBox.of hBK5.out))
        go_roundw
        case measure => simp only [intOf]; rw [ew1.out]; have := hdw.out; have := hw2.out; omega
        case rel => exact ⟨d2, wrap64 (way + 1), b, n, ys, rfl, rfl, rfl, Lib.hid (by rw [ew1.out]; have := hdw.out; omega), Lib.hid (by rw [ew1.out]; have a1 := hnb.out; have a2 := hdw.out; exact ⟨a1.1, a1.2.1, a1.2.2.1, by omega⟩), Lib.hid (by rw [ew1.out]; have e1 := hy.out; simp only [gways, hgb.out] at e1; simpa using e1), Lib.hid (by rw [ew1.out]; have e1 := hnn.out; simp only [gwaysN, hgb.out] at e1; simpa using e1), Lib.hid (Kd.S_below hS.out hb4), Lib.hid ((hb4.block _ (blk_lt hBK.out)).trans hBK.out), Lib.hid (hB.out.trans (hb4.mono hB.out.size))⟩
       | true =>
        rw [hb2] at hs2
        rw [hb2] at hgb
        replace hs2 := Lib.hid hs2
        replace hgb := Lib.hid hgb
        replace hb2 := Lib.hid hb2
        have hib := hlt.out
        cases b with
        | true =>
         go_wp2_with (first | (go_at_call 85; refine (grid_Step.calls _ _ _ _ _ _ _ _ _ _ _ _ _ _ _ _ _ (hgr5).h2 hgr.c2 (hgr5).h3 hgr.c3 (hgr5).h4 hgr.c4 hs2.out).mono ?_; rintro e w6 ⟨rfl, hb33⟩; have hb4 := hb3.trans (hb33.mono hb3.size); have hBK6 := Lib.hid ((hb33.block _ (blk_lt hBK5.out)).trans hBK5.out); have hgr6 := hgr5.below hb33; have hbx6 := GridBox.of hBK6.out) | (go_at_call 85; refine (grid_Step.calls _ _ _ _ _ _ _ _ _ _ _ _ _ _ _ _ _ (hgr).h2 hgr.c2 (hgr).h3 hgr.c3 (hgr).h4 hgr.c4 hs1.out).mono ?_; rintro e w5 ⟨rfl, hb3⟩; have hgr5 := hgr.below hb3; have hBK5 := Lib.hid ((hb3.block _ (blk_lt hBK.out)).trans hBK.out); obtain ⟨b0, b1, b2, b3, b4⟩ := GridBox.of hBK5.out) | (go_at_call 84; refine (gather.calls _ _ _ _ _ _ _ _ _ _ _ _ _ _ _ hgr6 hbx6 hwc.out (by omega)).mono ?_; rintro e w7 ⟨vRun, rfl, hRun, hb7⟩; have hS6 := Kd.S_below hS.out hb4; have hS7 := Lib.hid (run_apart hS6 hRun hb7); have hRb := Kd.R_base hRun; have hSl := Kd.S_lt hS6; have hB7 := (hB.out.trans (hb4.mono hB.out.size)).trans (hb7.mono ((hB.out.trans (hb4.mono hB.out.size)).size)); have hRl := Lib.hid (Kd.R_lower hRun (hB.out.trans (hb4.mono hB.out.size)).size); have hBK7 := Lib.hid ((hb7.block _ (blk_lt hBK6.out)).trans hBK6.out); obtain ⟨Ar, cr, rfl⟩ := Kd.R_slice hRun) | ((with_reducible refine gate_builtin (b := .append) (xs := #[.tmp 48, .tmp 57]) rfl ?_); go_must (at_builtin; refine Kd.S_append k137 (w0 := w) w.heap.size rfl (.tmp 48) (.tmp 57) 109 137 (.agg #[(.int .i64 0), (.bool false), (.slice none 0 0)]) 40 rfl Tryz.underlying109 slot_info rfl (by decide) (by omega) u3 (xs ++ ys.map slotOf) (slotOf (n, way == 1, grun H W bl ri be way bl.length i)) [.int .i64 (n), .bool (way == 1), .slice Ar (grun H W bl ri be way bl.length i).length cr] (fun _ => True) (fun k_ => some k_ = (Value.slice Ar (grun H W bl ri be way bl.length i).length cr).ownBlock) rfl rfl ?aP ?aK ?aF ?aO ?aB ?aS ?aL ?_; (case aP => exact k137_mkM _ _ _ (slotOf (n, way == 1, grun H W bl ri be way bl.length i)) (Kd.R_tight rfl hRl.out)); (case aK => exact (fun k_ hk_ => ⟨trivial, fun e_ => by have z1 := hRb k_ hk_.symm; have z2 := hSl k_ e_.symm; omega⟩)); (case aB => exact hB7); (case aF => exact (fun _ _ => trivial)); (case aO => exact hS7.out); (case aS => exact hB7.size); (case aL => have z1 := hnb.out; have z2 := hdw.out; have z3 := hn.out; have z4 := z1.2.2.2; omega); intro v8 w8 ho hb8 hg8 hat)))
         go_roundw
         case measure => simp only [intOf]; rw [ew1.out]; have := hdw.out; have := hw2.out; omega
         case rel => exact ⟨d2, wrap64 (way + 1), true, n, ys ++ [(n, way == 1, grun H W bl ri be way bl.length i)], rfl, rfl, rfl, Lib.hid (by rw [ew1.out]; have := hdw.out; omega), Lib.hid (by rw [ew1.out]; have a1 := hnb.out; have a2 := hdw.out; rw [List.map_append, ← List.append_assoc, List.length_append]; exact ⟨a1.1, a1.2.1, fun h => Bool.noConfusion h, by simp only [List.map_cons, List.map_nil, List.length_cons, List.length_nil]; omega⟩), Lib.hid (by rw [ew1.out]; have e1 := hy.out; simp only [gways, hgb.out] at e1; simpa using e1), Lib.hid (by rw [ew1.out]; have e1 := hnn.out; simp only [gwaysN, hgb.out] at e1; simpa using e1), Lib.hid (by rw [List.map_append, ← List.append_assoc]; exact ho), Lib.hid (blk_grown hBK7.out hg8 (Kd.S_ne hS7.out hBK7.out (by decide))), Lib.hid hb8⟩
        | false =>
         have en1 : wrap64 (n + 1) = n + 1 := w64 (by have := hnb.out; omega) (by have := hnb.out; have := hn.out; omega)
         replace en1 := Lib.hid en1
         go_wp2_with (first | (go_at_call 85; refine (grid_Step.calls _ _ _ _ _ _ _ _ _ _ _ _ _ _ _ _ _ (hgr5).h2 hgr.c2 (hgr5).h3 hgr.c3 (hgr5).h4 hgr.c4 hs2.out).mono ?_; rintro e w6 ⟨rfl, hb33⟩; have hb4 := hb3.trans (hb33.mono hb3.size); have hBK6 := Lib.hid ((hb33.block _ (blk_lt hBK5.out)).trans hBK5.out); have hgr6 := hgr5.below hb33; have hbx6 := GridBox.of hBK6.out) | (go_at_call 85; refine (grid_Step.calls _ _ _ _ _ _ _ _ _ _ _ _ _ _ _ _ _ (hgr).h2 hgr.c2 (hgr).h3 hgr.c3 (hgr).h4 hgr.c4 hs1.out).mono ?_; rintro e w5 ⟨rfl, hb3⟩; have hgr5 := hgr.below hb3; have hBK5 := Lib.hid ((hb3.block _ (blk_lt hBK.out)).trans hBK.out); obtain ⟨b0, b1, b2, b3, b4⟩ := GridBox.of hBK5.out) | (go_at_call 84; refine (gather.calls _ _ _ _ _ _ _ _ _ _ _ _ _ _ _ hgr6 hbx6 hwc.out (by omega)).mono ?_; rintro e w7 ⟨vRun, rfl, hRun, hb7⟩; have hS6 := Kd.S_below hS.out hb4; have hS7 := Lib.hid (run_apart hS6 hRun hb7); have hRb := Kd.R_base hRun; have hSl := Kd.S_lt hS6; have hB7 := (hB.out.trans (hb4.mono hB.out.size)).trans (hb7.mono ((hB.out.trans (hb4.mono hB.out.size)).size)); have hRl := Lib.hid (Kd.R_lower hRun (hB.out.trans (hb4.mono hB.out.size)).size); have hBK7 := Lib.hid ((hb7.block _ (blk_lt hBK6.out)).trans hBK6.out); obtain ⟨Ar, cr, rfl⟩ := Kd.R_slice hRun) | ((with_reducible refine gate_builtin (b := .append) (xs := #[.tmp 48, .tmp 57]) rfl ?_); go_must (at_builtin; refine Kd.S_append k137 (w0 := w) w.heap.size rfl (.tmp 48) (.tmp 57) 109 137 (.agg #[(.int .i64 0), (.bool false), (.slice none 0 0)]) 40 rfl Tryz.underlying109 slot_info rfl (by decide) (by omega) u3 (xs ++ ys.map slotOf) (slotOf (wrap64 (n + 1), way == 1, grun H W bl ri be way bl.length i)) [.int .i64 (wrap64 (n + 1)), .bool (way == 1), .slice Ar (grun H W bl ri be way bl.length i).length cr] (fun _ => True) (fun k_ => some k_ = (Value.slice Ar (grun H W bl ri be way bl.length i).length cr).ownBlock) rfl rfl ?aP ?aK ?aF ?aO ?aB ?aS ?aL ?_; (case aP => exact k137_mkM _ _ _ (slotOf (wrap64 (n + 1), way == 1, grun H W bl ri be way bl.length i)) (Kd.R_tight rfl hRl.out)); (case aK => exact (fun k_ hk_ => ⟨trivial, fun e_ => by have z1 := hRb k_ hk_.symm; have z2 := hSl k_ e_.symm; omega⟩)); (case aB => exact hB7); (case aF => exact (fun _ _ => trivial)); (case aO => exact hS7.out); (case aS => exact hB7.size); (case aL => have z1 := hnb.out; have z2 := hdw.out; have z3 := hn.out; have z4 := z1.2.2.2; omega); intro v8 w8 ho hb8 hg8 hat)))
         go_roundw
         case measure => simp only [intOf]; rw [ew1.out]; have := hdw.out; have := hw2.out; omega
         case rel => exact ⟨d2, wrap64 (way + 1), true, wrap64 (n + 1), ys ++ [(wrap64 (n + 1), way == 1, grun H W bl ri be way bl.length i)], rfl, rfl, rfl, Lib.hid (by rw [ew1.out]; have := hdw.out; omega), Lib.hid (by rw [ew1.out]; have a1 := hnb.out; have a2 := hdw.out; rw [List.map_append, ← List.append_assoc, List.length_append]; have en := en1.out; exact ⟨by omega, by have := a1.2.2.1 trivial; omega, fun h => Bool.noConfusion h, by simp only [List.map_cons, List.map_nil, List.length_cons, List.length_nil]; omega⟩), Lib.hid (by rw [ew1.out]; have e1 := hy.out; simp only [gways, hgb.out] at e1; rw [en1.out]; simpa using e1), Lib.hid (by rw [ew1.out]; have e1 := hnn.out; simp only [gwaysN, hgb.out] at e1; rw [en1.out]; simpa using e1), Lib.hid (by rw [List.map_append, ← List.append_assoc]; exact ho), Lib.hid (blk_grown hBK7.out hg8 (Kd.S_ne hS7.out hBK7.out (by decide))), Lib.hid hb8⟩
     ·have tw : decide (way < 2) = false := decide_eq_false hw2
      have hd0 : d2 = 0 ∧ way = 2 := by have := hdw.out; omega
      obtain ⟨rfl, rfl⟩ := hd0
      have hy2 := hy.out
      have hn2 := hnn.out
      simp only [gways, gwaysN, List.append_nil] at hy2 hn2
      subst hy2
      subst hn2
      clear hy hnn hw2
      go_wp2
      subst hQ
      go_wp2
      rw [Exit.noGoto_normal]
      go_wp2
      obtain ⟨j2, hj2⟩ : ∃ j2, wrap64 ((i : Int) + 1) = j2 := ⟨_, rfl⟩
      rw [hj2]
      rw [w64 (by have := hn.out; have := hlt.out; omega) (by have := hn.out; have := hlt.out; omega)] at hj2
      go_roundw
      case measure => exact meas_step hlt.out hj2
      case rel =>
       refine ⟨i + 1, xs ++ ys.map slotOf, n, ?_, rfl, ?_, ?_, ?_, hS, hBK, hB⟩
       ·rw [← hj2]; rfl
       ·exact Lib.hid hlt.out
       ·exact Lib.hid ⟨hnb.out.1, by have := hnb.out.2.1; omega, by have := hnb.out.2.2.2; have e2 : (2 : Int).toNat = 2 := rfl; omega⟩
       ·have e1 := hd.out
        exact Lib.hid (by rw [he2.out, List.append_assoc, show bl.length - (i + 1) = d by omega])
   ·have tlt : decide ((i : Int) < (bl.length : Int)) = false := decide_eq_false (by omega)
    have tltn : decide (i < bl.length) = false := decide_eq_false hlt
    have hib : i = bl.length := by have := hi.out; omega
    go_wp2
    subst hib
    go_ret
    refine ⟨_, rfl, ?_, hB.out⟩
    have e1 := he.out
    rw [Nat.sub_self] at e1
    rw [e1]
    simpa [gslots] using hS.out
 ·have hrr : r = [] := by rw [hr]; unfold slotsOf; rw [if_neg hok]
  subst hrr
  clear hr
  obtain ⟨er, her⟩ : ∃ e, gcheck H W bl ri be = e := ⟨_, rfl⟩
  rw [her] at hck hok
  have hne : (er != 0) = true := bne_iff_ne.2 hok
  replace hck := Lib.hid hck
  replace her := Lib.hid her
  go_enter Tryz.func61, Tryz.ntmps61
  go_wp2_with (first | (go_at_call 59; refine (grid_Check.calls _ _ _ _ _ _ _ _ _ _ _ _ _ _ (Kd.C_below h2 (below_alloc (Below.refl _ _) _)) hc2 (Kd.C_below h3 (below_alloc (Below.refl _ _) _)) hc3 (Kd.C_below h4 (below_alloc (Below.refl _ _) _)) hc4 hck.out).mono ?_; rintro e w3 ⟨rfl, hb3⟩))
  go_ret
  exact ⟨_, rfl, Kd.S_nil _ _ _ _ _, (below_alloc (Below.refl _ _) _).trans (hb3.mono (below_alloc (Below.refl _ _) _).size)⟩
end Go.Proofs.YtjopbfidjapmbaaGreatDoor.Q
end
section
namespace Go.Proofs.YtjopbfidjapmbaaGreatDoor.Q
open Go.RowKit Go.Proofs.YtjopbfidjapmbaaGreatDoorW.PrintWords Go.Proofs.YtjopbfidjapmbaaGreatDoorW.PrintLast Go.Proofs.YtjopbfidjapmbaaGreatDoorW.PrintMore
attribute [local go_sem] max2_int min2_int max_two min_two max_three min_three max_four min_four
set_option linter.unusedVariables false
set_option linter.unusedSimpArgs false
open Go.Proofs.YtjopbfidjapmbaaGreatDoorS
theorem page_line_1.calls (x : Nat) (hx : x ≤ 1114111) (w : World) :
  Calls Tryz.prog 86 #[.int .i32 x] w fun e w' => e = .returned (.bool (podd x)) ∧ Below w.heap.size w w' := by
 by_cases h : (x : Int) < 32
 ·have hp : podd x = true := by simp [podd]; omega
  replace hp := Lib.hid hp
  go_enter Tryz.func86, Tryz.ntmps86
  go_wp2
  go_ret
  rw [hp.out]
  exact ⟨rfl, Below.refl _ _⟩
 ·by_cases h7 : (x : Int) = 127
  ·have hp : podd x = true := by simp [podd]; omega
   have h7b : ((x : Int) == 127) = true := by simp [h7]
   replace hp := Lib.hid hp
   clear h7
   go_enter Tryz.func86, Tryz.ntmps86
   go_wp2
   go_ret
   rw [hp.out]
   exact ⟨rfl, Below.refl _ _⟩
  ·have hp : podd x = false := by simp [podd]; omega
   have h7b : ((x : Int) == 127) = false := by simp [h7]
   replace hp := Lib.hid hp
   clear h7
   go_enter Tryz.func86, Tryz.ntmps86
   go_wp2
   go_ret
   rw [hp.out]
   exact ⟨rfl, Below.refl _ _⟩
end Go.Proofs.YtjopbfidjapmbaaGreatDoor.Q
end
section
namespace Go.Proofs.YtjopbfidjapmbaaGreatDoor.Q
open Go.RowKit Go.Proofs.YtjopbfidjapmbaaGreatDoorW.PrintWords Go.Proofs.YtjopbfidjapmbaaGreatDoorW.PrintLast Go.Proofs.YtjopbfidjapmbaaGreatDoorW.PrintMore
attribute [local go_sem] max2_int min2_int max_two min_two max_three min_three max_four min_four
set_option linter.unusedVariables false
set_option linter.unusedSimpArgs false
open Go.Proofs.YtjopbfidjapmbaaGreatDoorS
def uline (s : ByteArray) : Bool := decide (s.size ≤ 960) && (uvalid s && (!(decide (0 ≤ Lib.idxFunc podd true s)) && (Lib.trimB s.data.toList 32 == s.toList)))
def page_line.f (a0 : ByteArray) : Option Bool := if a0.size ≤ 140737488351232 then some (uline a0) else none
set_option maxHeartbeats 4000000 in
set_option maxRecDepth 1000000 in
theorem page_line.calls (a0 : ByteArray) (r : Bool) (w : World) (hT : Tabs w) (h : page_line.f a0 = some r) :
  Calls Tryz.prog 62 #[.string a0] w fun e w' => e = .returned (.bool r) ∧ Below w.heap.size w w' := by
 obtain ⟨hs, rfl⟩ := guard_some h
 clear h
 by_cases h1 : a0.size ≤ 960
 ·cases h2 : uvalid a0 with
  | false =>
   have hr : uline a0 = false := by simp [uline, h2]
   have hv : utf_Valid.f a0 = some false := by unfold utf_Valid.f; rw [if_pos hs, h2]
   replace hr := Lib.hid hr
   replace hv := Lib.hid hv
   clear h2
   go_enter Tryz.func62, Tryz.ntmps62
   go_wp2_with (go_at_call 87; refine (utf_Valid.calls _ _ _ hT hv.out).mono ?_; rintro e w3 ⟨rfl, hb3⟩)
   go_ret
   rw [hr.out]
   exact ⟨rfl, hb3⟩
  | true =>
   have hv : utf_Valid.f a0 = some true := by unfold utf_Valid.f; rw [if_pos hs, h2]
   have hpg : ∀ w3, PredGrows Tryz.prog 86 #[] podd w3 := fun w3 W x hx hb => page_line_1.calls x hx W
   have hpg := Lib.hid hpg
   replace hv := Lib.hid hv
   by_cases h3 : 0 ≤ Lib.idxFunc podd true a0
   ·have hr : uline a0 = false := by simp [uline, h3]
    have h3b : decide (0 ≤ Lib.idxFunc podd true a0) = true := by simp [h3]
    replace hr := Lib.hid hr
    clear h2 h3
    go_enter Tryz.func62, Tryz.ntmps62
    go_wp2_with (first | (go_at_call 87; refine (utf_Valid.calls _ _ _ hT hv.out).mono ?_; rintro e w3 ⟨rfl, hb3⟩) | (go_at_call 88; refine (Tryz.strings_ContainsFunc_grows 86 #[] (enters_of Tryz.func86 (by kernel_rfl) rfl) podd _ _ (hpg.out _)).mono ?_; rintro e w4 ⟨rfl, hb4⟩))
    go_ret
    rw [hr.out]
    exact ⟨rfl, hb3.trans (hb4.mono hb3.size)⟩
   ·have h3b : decide (0 ≤ Lib.idxFunc podd true a0) = false := by simp [h3]
    have hr : uline a0 = (Lib.trimB a0.data.toList 32 == a0.toList) := by simp [uline, h1, h2, h3b]
    replace hr := Lib.hid hr
    clear h2 h3
    have hsz : a0.size ≤ 9223372036854775807 := by omega
    go_enter Tryz.func62, Tryz.ntmps62
    go_wp2_with (first | (go_at_call 87; refine (utf_Valid.calls _ _ _ hT hv.out).mono ?_; rintro e w3 ⟨rfl, hb3⟩) | (go_at_call 88; refine (Tryz.strings_ContainsFunc_grows 86 #[] (enters_of Tryz.func86 (by kernel_rfl) rfl) podd _ _ (hpg.out _)).mono ?_; rintro e w4 ⟨rfl, hb4⟩) | (go_at_call 89; refine (Tryz.strings_Trim_one a0 32 (by decide) _ hsz).mono ?_; rintro e w5 ⟨rfl, hb5⟩))
    go_ret
    rw [hr.out]
    refine ⟨rfl, ?_⟩
    rcases hb5 with rfl | rfl
    ·exact hb3.trans (hb4.mono hb3.size)
    ·exact (hb3.trans (hb4.mono hb3.size)).drew
 ·have hr : uline a0 = false := by simp [uline, h1]
  replace hr := Lib.hid hr
  have h1' : 960 < a0.size := by omega
  clear h1
  go_enter Tryz.func62, Tryz.ntmps62
  go_wp2
  go_ret
  rw [hr.out]
  exact ⟨rfl, Below.refl _ _⟩
end Go.Proofs.YtjopbfidjapmbaaGreatDoor.Q
end
section
namespace Go.Proofs.YtjopbfidjapmbaaGreatDoor.Q
open Go.RowKit Go.Proofs.YtjopbfidjapmbaaGreatDoorW.PrintWords Go.Proofs.YtjopbfidjapmbaaGreatDoorW.PrintLast Go.Proofs.YtjopbfidjapmbaaGreatDoorW.PrintMore
set_option linter.unusedVariables false
open Go.Proofs.YtjopbfidjapmbaaGreatDoorS
def pbad1 (bl : List Bool) (cells : List ByteArray) (i : Nat) : Bool := !(rdOf ByteArray.empty cells (i : Int)).toList.isEmpty && (rdOf false bl (i : Int) || !uletter (rdOf ByteArray.empty cells (i : Int)))
def pbad (bl : List Bool) (cells : List ByteArray) : Nat → Nat → Bool
  | 0, _ => false
  | d + 1, i => pbad1 bl cells i || pbad bl cells d (i + 1)
def pcheck (title : ByteArray) (H W : Int) (bl ri be : List Bool) (cells clues : List ByteArray) : Int :=
  if gcheck H W bl ri be = 0 then (if cells.length = bl.length then (if pbad bl cells cells.length 0 then 33 else if clues.length = (slotsOf H W bl ri be).length then (if (clues ++ [title]).all uline then 0 else 221) else 160) else 51) else gcheck H W bl ri be
def Small (l : List ByteArray) : Prop := ∀ s ∈ l, s.size ≤ 1048576
theorem rdOf_mem {l : List ByteArray} {i : Nat} (h : i < l.length) : rdOf ByteArray.empty l (i : Int) ∈ l := by
  have e : rdOf ByteArray.empty l (i : Int) = l[i] := by simp [rdOf, List.getD_eq_getElem?_getD, h]
  rw [e]; exact List.getElem_mem h
theorem Small.rd {l : List ByteArray} (h : Small l) {i : Nat} (hi : i < l.length) : (rdOf ByteArray.empty l (i : Int)).size ≤ 1048576 := h _ (rdOf_mem hi)
theorem toList_nil {l : List UInt8} : l.isEmpty = false ↔ ¬ l = [] := by cases l <;> simp
def sbad (sc : List ByteArray) (ss : List Bool) : Nat → Nat → Bool
  | 0, _ => false
  | d + 1, i => ((rdOf ByteArray.empty sc (i : Int)).toList.isEmpty && rdOf false ss (i : Int)) || sbad sc ss d (i + 1)
def scheck (title : ByteArray) (H W : Int) (bl ri be : List Bool) (cells clues : List ByteArray) (sc : List ByteArray) (ss : List Bool) (at_ : Int) : Int :=
  if pcheck title H W bl ri be cells clues = 0 then (if sc.length = cells.length ∧ ss.length = cells.length then (if pcheck ⟨#[]⟩ H W bl ri be sc clues = 0 then (if sbad sc ss sc.length 0 then 33 else if gopen bl at_ then 0 else 230) else 33) else 51) else pcheck title H W bl ri be cells clues
theorem pcheck_ok {title : ByteArray} {H W : Int} {bl ri be : List Bool} {cells clues : List ByteArray} (h : pcheck title H W bl ri be cells clues = 0) : gcheck H W bl ri be = 0 ∧ cells.length = bl.length ∧ pbad bl cells cells.length 0 = false ∧ clues.length = (slotsOf H W bl ri be).length ∧ (clues ++ [title]).all uline = true := by
  unfold pcheck at h
  by_cases h1 : gcheck H W bl ri be = 0
  · rw [if_pos h1] at h
    by_cases h2 : cells.length = bl.length
    · rw [if_pos h2] at h
      cases h3 : pbad bl cells cells.length 0 with
      | true => rw [h3] at h; simp at h
      | false =>
        rw [h3] at h
        simp only [Bool.false_eq_true, if_false] at h
        by_cases h4 : clues.length = (slotsOf H W bl ri be).length
        · rw [if_pos h4] at h
          cases h5 : (clues ++ [title]).all uline with
          | true => exact ⟨h1, h2, rfl, h4, rfl⟩
          | false => rw [h5] at h; simp at h
        · rw [if_neg h4] at h; cases h
    · rw [if_neg h2] at h; cases h
  · rw [if_neg h1] at h; exact absurd h h1
theorem scheck_ok {title : ByteArray} {H W : Int} {bl ri be : List Bool} {cells clues sc : List ByteArray} {ss : List Bool} {at_ : Int} (h : scheck title H W bl ri be cells clues sc ss at_ = 0) : pcheck title H W bl ri be cells clues = 0 ∧ sc.length = cells.length ∧ ss.length = cells.length ∧ pcheck ⟨#[]⟩ H W bl ri be sc clues = 0 ∧ sbad sc ss sc.length 0 = false ∧ gopen bl at_ = true := by
  unfold scheck at h
  by_cases h1 : pcheck title H W bl ri be cells clues = 0
  · rw [if_pos h1] at h
    by_cases h2 : sc.length = cells.length ∧ ss.length = cells.length
    · rw [if_pos h2] at h
      by_cases h3 : pcheck ⟨#[]⟩ H W bl ri be sc clues = 0
      · rw [if_pos h3] at h
        cases h4 : sbad sc ss sc.length 0 with
        | true => rw [h4] at h; simp at h
        | false =>
          rw [h4] at h
          simp only [Bool.false_eq_true, if_false] at h
          cases h5 : gopen bl at_ with
          | true => exact ⟨h1, h2.1, h2.2, h3, rfl, rfl⟩
          | false => rw [h5] at h; simp at h
      · rw [if_neg h3] at h; cases h
    · rw [if_neg h2] at h; cases h
  · rw [if_neg h1] at h; exact absurd h h1
def firstOpen (bl : List Bool) : Nat → Nat → Int
  | 0, _ => -1
  | d + 1, i => if rdOf false bl (i : Int) then firstOpen bl d (i + 1) else (i : Int)
def sstart (title : ByteArray) (H W : Int) (bl ri be : List Bool) (cells clues : List ByteArray) : List ByteArray × List Bool × Int × Bool × Int :=
  if pcheck title H W bl ri be cells clues = 0 then (if firstOpen bl bl.length 0 < 0 then ([], [], 0, false, 230) else (List.replicate cells.length ⟨#[]⟩, List.replicate cells.length false, firstOpen bl bl.length 0, false, 0)) else ([], [], 0, false, pcheck title H W bl ri be cells clues)
end Go.Proofs.YtjopbfidjapmbaaGreatDoor.Q
end
section
namespace Go.Proofs.YtjopbfidjapmbaaGreatDoor.Q
open Go.RowKit Go.Proofs.YtjopbfidjapmbaaGreatDoorW.PrintWords Go.Proofs.YtjopbfidjapmbaaGreatDoorW.PrintLast Go.Proofs.YtjopbfidjapmbaaGreatDoorW.PrintMore
attribute [local go_sem] max2_int min2_int max_two min_two max_three min_three max_four min_four
set_option linter.unusedVariables false
set_option linter.unusedSimpArgs false
open Go.Proofs.YtjopbfidjapmbaaGreatDoorS
theorem seat_info : (Tryz.prog.info? 150).map (fun i => (i.zero, i.size, i.bytes)) = some (some (.agg #[(.int .i64 0), (.int .i64 0)]), 2, 16) := by kernel_rfl
def seatCells (s : Int) : List Int → Nat → List S150 → List S150
 | [], _, l => l
 | i :: is, at_, l => seatCells s is (at_ + 1) (l.set i.toNat ⟨s, (at_ : Int)⟩)
def seatS : List S137 → Nat → List S150 × List S150 → List S150 × List S150
 | [], _, p => p
 | x :: xs, s, p => seatS xs (s + 1) (if x.f1 then (p.1, seatCells (s : Int) x.f2 0 p.2) else (seatCells (s : Int) x.f2 0 p.1, p.2))
def seatsOf (H W : Int) (bl ri be : List Bool) : List S150 × List S150 :=
 if gcheck H W bl ri be = 0 then seatS (slotsOf H W bl ri be) 0 (List.replicate bl.length ⟨-1, 0⟩, List.replicate bl.length ⟨-1, 0⟩) else ([], [])
def slots_Seats.f (H W : Int) (bl ri be : List Bool) : Option (List S150 × List S150) := some (seatsOf H W bl ri be)
theorem seatCells_length (s : Int) : ∀ (cs : List Int) (k : Nat) (l : List S150), (seatCells s cs k l).length = l.length
 | [], _, _ => rfl
 | i :: is, k, l => by simp only [seatCells]; rw [seatCells_length s is]; simp
theorem grun_mem {H W : Int} {bl ri be : List Bool} (hc : gcheck H W bl ri be = 0) {way : Int} (hw : way = 0 ∨ way = 1) : ∀ (f : Nat) (i : Int), 0 ≤ i → i < bl.length → ∀ c ∈ grun H W bl ri be way f i, 0 ≤ c ∧ c < bl.length := by
 intro f
 induction f with
 | zero => intro i h0 h1 c hm; simp only [grun, List.mem_singleton] at hm; subst hm; exact ⟨h0, h1⟩
 | succ f ih =>
  intro i h0 h1 c hm
  cases hok : (gStep H W bl ri be i way).2 with
  | false => simp only [grun, hok, Bool.false_eq_true, if_false, List.mem_singleton] at hm; subst hm; exact ⟨h0, h1⟩
  | true =>
   have hy := gStep_yes hc hw hok
   simp only [grun, hok, if_true, List.mem_cons] at hm
   rcases hm with rfl | hm
   ·exact ⟨h0, h1⟩
   ·exact ih _ (by omega) hy.2.2 c hm
theorem grun_length {H W : Int} {bl ri be : List Bool} (hc : gcheck H W bl ri be = 0) {way : Int} (hw : way = 0 ∨ way = 1) : ∀ (f : Nat) (i : Int), 0 ≤ i → i < bl.length → (grun H W bl ri be way f i).length + i ≤ bl.length := by
 intro f
 induction f with
 | zero => intro i h0 h1; simp only [grun, List.length_singleton]; omega
 | succ f ih =>
  intro i h0 h1
  cases hok : (gStep H W bl ri be i way).2 with
  | false => simp only [grun, hok, Bool.false_eq_true, if_false, List.length_singleton]; omega
  | true =>
   have hy := gStep_yes hc hw hok
   simp only [grun, hok, if_true, List.length_cons]
   have := ih _ (by omega) hy.2.2
   omega
theorem gslots_mem {H W : Int} {bl ri be : List Bool} (hc : gcheck H W bl ri be = 0) : ∀ (d i : Nat) (num : Int), i + d = bl.length → ∀ x ∈ gslots H W bl ri be d i num, x.2.2.length ≤ bl.length ∧ ∀ c ∈ x.2.2, 0 ≤ c ∧ c < bl.length := by
 intro d
 induction d with
 | zero => intro i num _ x hx; simp [gslots] at hx
 | succ d ih =>
  intro i num hd x hx
  have hi0 : (0 : Int) ≤ (i : Int) := Int.natCast_nonneg _
  have hi1 : (i : Int) < (bl.length : Int) := Int.ofNat_lt.2 (by omega)
  simp only [gslots, List.mem_append] at hx
  rcases hx with (hx | hx) | hx
  ·split at hx
   ·simp only [List.mem_singleton] at hx
    subst hx
    exact ⟨by have := grun_length hc (.inl rfl) bl.length (i : Int) hi0 hi1; simp only; omega, grun_mem hc (.inl rfl) _ _ hi0 hi1⟩
   ·simp at hx
  ·split at hx
   ·simp only [List.mem_singleton] at hx
    subst hx
    exact ⟨by have := grun_length hc (.inr rfl) bl.length (i : Int) hi0 hi1; simp only; omega, grun_mem hc (.inr rfl) _ _ hi0 hi1⟩
   ·simp at hx
  ·exact ih (i + 1) _ (by omega) x hx
theorem gslots_count (H W : Int) (bl ri be : List Bool) : ∀ (d i : Nat) (num : Int), (gslots H W bl ri be d i num).length ≤ 2 * d := by
 intro d
 induction d with
 | zero => intro i num; simp [gslots]
 | succ d ih =>
  intro i num
  simp only [gslots, List.length_append]
  have := ih (i + 1) (if gbegins H W bl ri be i 0 || gbegins H W bl ri be i 1 then num + 1 else num)
  split <;> split <;> simp only [List.length_singleton, List.length_nil] <;> omega
theorem slotsOf_facts {H W : Int} {bl ri be : List Bool} (hc : gcheck H W bl ri be = 0) : (slotsOf H W bl ri be).length ≤ 2 * bl.length ∧ ∀ x ∈ slotsOf H W bl ri be, x.f2.length ≤ bl.length ∧ ∀ c ∈ x.f2, 0 ≤ c ∧ c < bl.length := by
 unfold slotsOf
 rw [if_pos hc]
 refine ⟨by rw [List.length_map]; exact gslots_count _ _ _ _ _ _ _ _, fun x hx => ?_⟩
 obtain ⟨y, hy, rfl⟩ := List.mem_map.1 hx
 exact gslots_mem hc bl.length 0 0 (by omega) y hy
theorem drop_rd {L : List S137} {m : Nat} (h : m < L.length) : L.drop m = rd_T137 L (m : Int) :: L.drop (m + 1) := by
 rw [List.drop_eq_getElem_cons h]
 simp [rd_T137, List.getD_eq_getElem?_getD, h]
theorem mem_rd {L : List S137} {m : Nat} (h : m < L.length) : rd_T137 L (m : Int) ∈ L := by
 have e : rd_T137 L (m : Int) = L[m] := by simp [rd_T137, List.getD_eq_getElem?_getD, h]
 rw [e]
 exact List.getElem_mem h
theorem drop_rdI {L : List Int} {m : Nat} (h : m < L.length) : L.drop m = rd L (m : Int) :: L.drop (m + 1) := by
 rw [List.drop_eq_getElem_cons h]
 simp [rd, List.getD_eq_getElem?_getD, h]
theorem mem_rdI {L : List Int} {m : Nat} (h : m < L.length) : rd L (m : Int) ∈ L := by
 have e : rd L (m : Int) = L[m] := by simp [rd, List.getD_eq_getElem?_getD, h]
 rw [e]
 exact List.getElem_mem h
structure SeatW (w wr : World) (b g0 g1 c0 c1 n : Nat) (vL : Value) (L : List S137) (l0 l1 : List S150) : Prop where
 r0 : Kd.R k150 150 wr w.heap.size (fun k_ => some k_ ≠ (Value.slice (some ⟨g1, 0, none⟩) n c1).ownBlock) (.slice (some ⟨g0, 0, none⟩) n c0) l0
 r1 : Kd.R k150 150 wr w.heap.size (fun k_ => some k_ ≠ (Value.slice (some ⟨g0, 0, none⟩) n c0).ownBlock) (.slice (some ⟨g1, 0, none⟩) n c1) l1
 s : Kd.S k137 137 wr w.heap.size (fun _ => True) vL L
 bx : wr.heap[b]? = some (.cells #[.slice (some ⟨g0, 0, none⟩) n c0, .slice (some ⟨g1, 0, none⟩) n c1] 179 (0, 0))
 bl : Below w.heap.size w wr
theorem SeatW.below {w wr w' : World} {b g0 g1 c0 c1 n : Nat} {vL : Value} {L : List S137} {l0 l1 : List S150} (h : SeatW w wr b g0 g1 c0 c1 n vL L l0 l1) (hb : Below wr.heap.size wr w') : SeatW w w' b g0 g1 c0 c1 n vL L l0 l1 :=
 ⟨Kd.R_below h.r0 hb, Kd.R_below h.r1 hb, Kd.S_below h.s hb, (hb.block _ (blk_lt h.bx)).trans h.bx, h.bl.trans (hb.mono h.bl.size)⟩
theorem SeatW.put0 {w wr w' : World} {b g0 g1 c0 c1 n : Nat} {vL : Value} {L : List S137} {l0 l1 l0' : List S150} (h : SeatW w wr b g0 g1 c0 c1 n vL L l0 l1) (hr : Kd.R k150 150 w' w.heap.size (fun k_ => some k_ ≠ (Value.slice (some ⟨g1, 0, none⟩) n c1).ownBlock) (.slice (some ⟨g0, 0, none⟩) n c0) l0') (hg : wr.grownBy w' (some g0)) (hb : Below w.heap.size w w') : SeatW w w' b g0 g1 c0 c1 n vL L l0' l1 :=
 ⟨hr, Kd.R_grown h.r1 hg (fun k hk => hk), Kd.S_over' (v := .slice (some ⟨g0, 0, none⟩) n c0) h.s (Kd.R_typed h.r0) (by decide) hg, blk_grown h.bx hg (Kd.R_ne h.r0 h.bx (by decide)), hb⟩
theorem SeatW.put1 {w wr w' : World} {b g0 g1 c0 c1 n : Nat} {vL : Value} {L : List S137} {l0 l1 l1' : List S150} (h : SeatW w wr b g0 g1 c0 c1 n vL L l0 l1) (hr : Kd.R k150 150 w' w.heap.size (fun k_ => some k_ ≠ (Value.slice (some ⟨g0, 0, none⟩) n c0).ownBlock) (.slice (some ⟨g1, 0, none⟩) n c1) l1') (hg : wr.grownBy w' (some g1)) (hb : Below w.heap.size w w') : SeatW w w' b g0 g1 c0 c1 n vL L l0 l1' :=
 ⟨Kd.R_grown h.r0 hg (fun k hk => hk), hr, Kd.S_over' (v := .slice (some ⟨g1, 0, none⟩) n c1) h.s (Kd.R_typed h.r1) (by decide) hg, blk_grown h.bx hg (Kd.R_ne h.r1 h.bx (by decide)), hb⟩
theorem seat_cells {w : World} {base : Nat} {ok : Nat → Prop} {g n c : Nat} {la : List S150} (h : Kd.R k150 150 w base ok (.slice (some ⟨g, 0, none⟩) n c) la) (i : Int) (h0 : 0 ≤ i) (h1 : i < n) :
  ∀ q u, ([.int .i64 (rd_T150 la i).f0, .int .i64 (rd_T150 la i).f1] : List Value)[q]? = some u → w.cell? ⟨g, i.toNat * 2 + q, none⟩ = some u := by
 obtain ⟨e, _, hC⟩ := Kd.R_reads' h
 obtain ⟨ad, eA, z0, z1⟩ := at_T150 hC i h0 (by omega)
 cases eA
 rw [add_plain] at z0 z1
 intro q u hq
 match q, hq with
 | 0, hq => cases hq; exact z0
 | 1, hq => cases hq; exact z1
set_option maxHeartbeats 8000000 in
set_option maxRecDepth 1000000 in
theorem slots_Seats.calls (H W : Int) (A2 : Option Addr) (c2 : Nat) (bl : List Bool) (A3 : Option Addr) (c3 : Nat) (ri : List Bool) (A4 : Option Addr) (c4 : Nat) (be : List Bool) (r1 r2 : List S150) (w : World)
  (h2 : Kd.C Kd.bool w A2 bl.length bl) (hc2 : bl.length ≤ c2) (h3 : Kd.C Kd.bool w A3 ri.length ri) (hc3 : ri.length ≤ c3) (h4 : Kd.C Kd.bool w A4 be.length be) (hc4 : be.length ≤ c4) (h : slots_Seats.f H W bl ri be = some (r1, r2)) :
  Calls Tryz.prog 93 #[.agg #[.int .i64 H, .int .i64 W, .slice A2 bl.length c2, .slice A3 ri.length c3, .slice A4 be.length c4]] w fun e w' => ∃ v0_ v1_ : Value, e = .returned (.tuple #[v0_, v1_]) ∧ Kd.R k150 150 w' w.heap.size (fun k_ => some k_ ≠ (v1_ : Value).ownBlock) v0_ r1 ∧ Kd.R k150 150 w' w.heap.size (fun k_ => some k_ ≠ (v0_ : Value).ownBlock) v1_ r2 ∧ Below w.heap.size w w' := by
 have hck := grid_Check_eq H W bl ri be (bl.length + 3) (Nat.le_refl _)
 by_cases hok : gcheck H W bl ri be = 0
 ·have hg : GridIs H W A2 c2 bl A3 c3 ri A4 c4 be w := ⟨h2, hc2, h3, hc3, h4, hc4, hok⟩
  have hn : bl.length ≤ 256 := by have := (mul_small (gcheck_ok hok).1 (gcheck_ok hok).2.1).2; have := (gcheck_ok hok).2.2.1; omega
  rw [hok] at hck
  replace hn := Lib.hid hn
  replace hok := Lib.hid hok
  replace hck := Lib.hid hck
  replace h := Lib.hid h
  go_enter Tryz.func93, Tryz.ntmps93
  go_wp2_with (first | (go_at_call 59; refine (grid_Check.calls _ _ _ _ _ _ _ _ _ _ _ _ _ _ (Kd.C_below h2 (below_alloc (Below.refl _ _) _)) hc2 (Kd.C_below h3 (below_alloc (Below.refl _ _) _)) hc3 (Kd.C_below h4 (below_alloc (Below.refl _ _) _)) hc4 hck.out).mono ?_; rintro e w3 ⟨rfl, hb3⟩; have hBK0 : w3.heap[w.heap.size]? = some (.cells #[.int .i64 H, .int .i64 W, .slice A2 bl.length c2, .slice A3 ri.length c3, .slice A4 be.length c4] 39 (0, 0)) := (hb3.block _ (by show _ < (w.heap.push _).size; simp)).trans (new_blk _ _); have hB0 : Below w.heap.size w w3 := (below_alloc (Below.refl _ _) _).trans (hb3.mono (below_alloc (Below.refl _ _) _).size); have hBK1 : (w3.alloc (.cells #[.slice none 0 0, .slice none 0 0] 179 (0, 0))).heap[w.heap.size]? = _ := blk_alloc hBK0 _; have hbx1 : (w3.alloc (.cells #[.slice none 0 0, .slice none 0 0] 179 (0, 0))).heap[w3.heap.size]? = _ := new_blk _ _; have hB1 := below_alloc (o := .cells #[.slice none 0 0, .slice none 0 0] 179 (0, 0)) hB0; have hz0 := (GridBox.of hBK1).2.2.1; have hlt3 := blk_lt hBK0))
  clear hz0 hb3 hBK0
  have hge : w.heap.size ≤ w3.heap.size := hB0.size
  have hlt3 : Hid (w.heap.size < w3.heap.size) := Lib.hid hlt3
  replace hBK1 := Lib.hid hBK1
  replace hbx1 := Lib.hid hbx1
  replace hB1 := Lib.hid hB1
  skip
  go_loopw [16] (fun v16 wr => ∃ (m : Nat) (j : Int) (v0 v1 : Value), v16 = .int .i64 j ∧ Hid (j = m ∧ m ≤ bl.length) ∧ Hid (Kd.R k150 150 wr w.heap.size (fun k_ => True ∧ some k_ ≠ (v1 : Value).ownBlock) v0 (List.replicate m ⟨-1, 0⟩)) ∧ Hid (Kd.R k150 150 wr w.heap.size (fun k_ => True ∧ some k_ ≠ (v0 : Value).ownBlock) v1 (List.replicate m ⟨-1, 0⟩)) ∧ Hid (wr.heap[w.heap.size]? = some (.cells #[.int .i64 H, .int .i64 W, .slice A2 bl.length c2, .slice A3 ri.length c3, .slice A4 be.length c4] 39 (0, 0))) ∧ Hid (wr.heap[w3.heap.size]? = some (.cells #[v0, v1] 179 (0, 0))) ∧ Hid (Below w.heap.size w wr)) (fun v16 _ => bl.length - (intOf v16).toNat)
  case atStart => exact ⟨0, 0, _, _, rfl, Lib.hid ⟨rfl, Nat.zero_le _⟩, Lib.hid (Kd.R_nil _ _ _ _ _), Lib.hid (Kd.R_nil _ _ _ _ _), hBK1, hbx1, hB1⟩
  case round =>
   clear hBK1 hbx1 hB1
   obtain ⟨m, j, v0, v1, rfl, hm, hr0, hr1, hBK, hbx, hB⟩ := hrel
   by_cases hlt : m < bl.length
   ·have tlt : decide (j < (bl.length : Int)) = true := decide_eq_true (by have := hm.out; omega)
    have z0 : wr.cell? ⟨w3.heap.size, 0, none⟩ = some v0 := (blk_cell hbx.out 0).trans rfl
    replace hlt := Lib.hid hlt
    go_wp2_with (first | ((with_reducible refine gate_builtin (b := .append) (xs := #[.tmp 19, .tmp 21]) rfl ?_); go_must (at_builtin; refine Kd.R_append k150 (w0 := w) w.heap.size rfl (.tmp 19) (.tmp 21) 146 150 (.agg #[(.int .i64 0), (.int .i64 0)]) 16 rfl Tryz.underlying146 seat_info rfl (by decide) (by decide) v0 (List.replicate m (⟨-1, 0⟩ : S150)) (⟨-1, 0⟩ : S150) [.int .i64 (-1), .int .i64 0] (fun k_ => True ∧ some k_ ≠ (v1 : Value).ownBlock) (fun _ => False) rfl rfl ?aP (fun _ hk => hk.elim) ?aF ?aO ?aB ?aS ?aL ?_; (case aP => exact k150_mkM _ _ _ (⟨-1, 0⟩ : S150)); (case aF => exact (fun k hk => ⟨trivial, fun e => by have := Kd.R_lt hr1.out k e.symm; omega⟩)); (case aO => exact hr0.out); (case aB => exact hB.out); (case aS => exact (hB.out).size); (case aL => rw [List.length_replicate]; have := hm.out; have := hn.out; omega); intro v4 w4 ho hb hg4 hat; obtain ⟨A4_, n4_, k4_, rfl⟩ := R_slice3 ho; have hbx4 := Lib.hid (blk_grown hbx.out hg4 (Kd.R_ne hr0.out hbx.out (by decide))); have hBK4 := Lib.hid (blk_grown hBK.out hg4 (Kd.R_ne hr0.out hBK.out (by decide))); have y0 : w4.cell? ⟨w3.heap.size, 0, none⟩ = some v0 := (blk_cell hbx4.out 0).trans rfl; have y1 : w4.cell? ⟨w3.heap.size, 1, none⟩ = some v1 := (blk_cell hbx4.out 1).trans rfl; have q0 := blk_frozen hbx4.out 0; have q1 := blk_frozen hbx4.out 1; have hr4 := Lib.hid (Kd.R_set ho hbx4.out (by decide) 0 (.slice A4_ n4_ k4_)); have hr14 := Lib.hid (Kd.R_set (Kd.R_after hr1.out hg4 hat) hbx4.out (by decide) 0 (.slice A4_ n4_ k4_)); have hbx5 := Lib.hid (blk_put (cs' := #[.slice A4_ n4_ k4_, v1]) hbx4.out 0 (.slice A4_ n4_ k4_) rfl); have hBK5 := Lib.hid (blk_far hBK4.out (p := ⟨w3.heap.size, 0, none⟩) (by show w.heap.size ≠ w3.heap.size; have := hlt3.out; omega) (.slice A4_ n4_ k4_)); have hB4 := Lib.hid (below_set (j := 0) (v := .slice A4_ n4_ k4_) hb hge); clear hb hg4 hat ho)) | ((with_reducible refine gate_builtin (b := .append) (xs := #[.tmp 25, .tmp 27]) rfl ?_); go_must (at_builtin; refine R_append_at k150 (w0 := w) w.heap.size w4.heap.size (by simp) (by rfl) (.tmp 25) (.tmp 27) 146 150 (.agg #[(.int .i64 0), (.int .i64 0)]) 16 rfl Tryz.underlying146 seat_info rfl (by decide) (by decide) v1 (List.replicate m (⟨-1, 0⟩ : S150)) (⟨-1, 0⟩ : S150) [.int .i64 (-1), .int .i64 0] (fun k_ => True ∧ some k_ ≠ (Value.slice A4_ n4_ k4_).ownBlock) (fun _ => False) rfl rfl ?aP (fun _ hk => hk.elim) ?aF ?aO ?aB ?aS ?aL ?_; (case aP => exact k150_mkM _ _ _ (⟨-1, 0⟩ : S150)); (case aF => exact (fun k hk => ⟨trivial, fun e => by have := Kd.R_lt hr4.out k e.symm; omega⟩)); (case aO => exact hr14.out); (case aB => exact hB4.out); (case aS => exact (hB4.out).size); (case aL => rw [List.length_replicate]; have := hm.out; have := hn.out; omega); intro v6 w6 ho6 hb6 hg6 hat6; obtain ⟨A6_, n6_, k6_, rfl⟩ := R_slice3 ho6; have hbx6 := Lib.hid (blk_grown hbx5.out hg6 (Kd.R_ne hr14.out hbx5.out (by decide))); have hBK6 := Lib.hid (blk_grown hBK5.out hg6 (Kd.R_ne hr14.out hBK5.out (by decide))); have x0 : w6.cell? ⟨w3.heap.size, 0, none⟩ = some (.slice A4_ n4_ k4_) := (blk_cell hbx6.out 0).trans rfl; have x1 : w6.cell? ⟨w3.heap.size, 1, none⟩ = some v1 := (blk_cell hbx6.out 1).trans rfl; have p0 := blk_frozen hbx6.out 0; have p1 := blk_frozen hbx6.out 1; have hr6 := Lib.hid (Kd.R_set (Kd.R_after hr4.out hg6 hat6) hbx6.out (by decide) 1 (.slice A6_ n6_ k6_)); have hr16 := Lib.hid (Kd.R_set ho6 hbx6.out (by decide) 1 (.slice A6_ n6_ k6_)); have hbx7 := Lib.hid (blk_put (cs' := #[.slice A4_ n4_ k4_, .slice A6_ n6_ k6_]) hbx6.out 1 (.slice A6_ n6_ k6_) rfl); have hBK7 := Lib.hid (blk_far hBK6.out (p := ⟨w3.heap.size, 1, none⟩) (by show w.heap.size ≠ w3.heap.size; have := hlt3.out; omega) (.slice A6_ n6_ k6_)); have hB7 := Lib.hid (below_set (j := 1) (v := .slice A6_ n6_ k6_) hb6 hge); clear hb6 hg6 hat6 ho6)))
    obtain ⟨j2, hj2⟩ : ∃ j2, wrap64 (j + 1) = j2 := ⟨_, rfl⟩
    rw [hj2]
    rw [w64 (by have := hm.out; have := hn.out; omega) (by have := hm.out; have := hn.out; omega)] at hj2
    refine ⟨⟨m + 1, j2, _, _, rfl, Lib.hid ⟨by have := hm.out; omega, hlt.out⟩, ?_, ?_, hBK7, hbx7, hB7⟩, ?_⟩
    ·rw [List.replicate_succ']; exact hr6
    ·rw [List.replicate_succ']; exact hr16
    ·simp only [intOf]; have := hm.out; have := hlt.out; omega
   ·have tlt : decide (j < (bl.length : Int)) = false := decide_eq_false (by have := hm.out; omega)
    have hmb : m = bl.length := by have := hm.out; omega
    subst hmb
    have hn1 : 0 < bl.length := by have := (mul_small (gcheck_ok hok.out).1 (gcheck_ok hok.out).2.1).1; have := (gcheck_ok hok.out).2.2.1; omega
    obtain ⟨g0, c0, rfl⟩ := R_form_n hr0.out (List.length_replicate) hn1
    obtain ⟨g1, c1, rfl⟩ := R_form_n hr1.out (List.length_replicate) hn1
    have hLf := slotsOf_facts hok.out
    obtain ⟨L, hL⟩ : ∃ L, slotsOf H W bl ri be = L := ⟨_, rfl⟩
    have hLs : slots_List.f H W bl ri be = some L := by unfold slots_List.f; rw [hL]
    have hfin : seatS (L.drop 0) 0 (List.replicate bl.length ⟨-1, 0⟩, List.replicate bl.length ⟨-1, 0⟩) = (r1, r2) := by
     have := h.out
     unfold slots_Seats.f seatsOf at this
     rw [if_pos hok.out, hL] at this
     exact Option.some.inj this
    rw [hL] at hLf
    replace hL := Lib.hid hL
    replace hLs := Lib.hid hLs
    replace hfin := Lib.hid hfin
    replace hLf := Lib.hid hLf
    clear hlt
    replace hn1 := Lib.hid hn1
    have hb0 := (GridBox.of hBK.out).1
    have hb1 := (GridBox.of hBK.out).2.1
    have hb2 := (GridBox.of hBK.out).2.2.1
    have hb3 := (GridBox.of hBK.out).2.2.2.1
    have hb4 := (GridBox.of hBK.out).2.2.2.2
    go_wp2_with (go_at_call 61; go_loud (refine (slots_List.calls _ _ _ _ _ _ _ _ _ _ _ _ _ (Kd.C_below h2 hB.out) hc2 (Kd.C_below h3 hB.out) hc3 (Kd.C_below h4 hB.out) hc4 hLs.out).mono ?_; rintro e w5 ⟨vL, rfl, hLr, hb5⟩; obtain ⟨AL, cL, rfl⟩ := Kd.S_slice hLr))
    have hSW0 : SeatW w w5 w3.heap.size g0 g1 c0 c1 bl.length (.slice AL L.length cL) L (List.replicate bl.length ⟨-1, 0⟩) (List.replicate bl.length ⟨-1, 0⟩) :=
     ⟨Kd.R_below (Kd.R_mono hr0.out (fun _ hk => hk.2)) hb5, Kd.R_below (Kd.R_mono hr1.out (fun _ hk => hk.2)) hb5, Kd.S_lower hLr hB.out.size, (hb5.block _ (blk_lt hbx.out)).trans hbx.out, hB.out.trans (hb5.mono hB.out.size)⟩
    replace hSW0 := Lib.hid hSW0
    clear hb0 hb1 hb2 hb3 hb4 hr0 hr1 hBK hbx hB hb5 hLr
    go_loopw [34] (fun v34 wr => ∃ (m : Nat) (j : Int) (l0 l1 : List S150), v34 = .int .i64 j ∧ Hid (j = m ∧ m ≤ L.length) ∧ Hid (seatS (L.drop m) m (l0, l1) = (r1, r2)) ∧ Hid (l0.length = bl.length ∧ l1.length = bl.length) ∧ Hid (SeatW w wr w3.heap.size g0 g1 c0 c1 bl.length (.slice AL L.length cL) L l0 l1)) (fun v34 _ => L.length - (intOf v34).toNat)
    case atStart => exact ⟨0, 0, _, _, rfl, Lib.hid ⟨rfl, Nat.zero_le _⟩, hfin, Lib.hid ⟨List.length_replicate, List.length_replicate⟩, hSW0⟩
    case round =>
     clear hSW0 hfin
     obtain ⟨m, j, l0, l1, rfl, hj, hss, hll, hSW⟩ := hrel
     by_cases hlt : m < L.length
     ·have tlt : decide (j < (L.length : Int)) = true := decide_eq_true (by have := hj.out; omega)
      have hj0 : 0 ≤ j := by have := hj.out; omega
      have hj1 : j < (L.length : Int) := by have := hj.out; omega
      obtain ⟨ad, ecs, eA, zz⟩ : ∃ (ad : Addr) (cs : List Value), AL = some ad ∧ cs.length = 3 ∧ Kd.M k137 wr w.heap.size (fun _ => True) (rd_T137 L j) cs ∧ ∀ q u, cs[q]? = some u → wr.cell? (ad.add (j.toNat * 3 + q)) = some u := by
       cases AL with
       | none => have := (Kd.S_reads' hSW.out.s).2.2.2.2 (by omega); obtain ⟨ad, e, _⟩ := this; cases e
       | some ad => obtain ⟨c, h1, h2, h3⟩ := Kd.S_get hSW.out.s z137 j hj0 hj1; exact ⟨ad, c, rfl, h1, k137.M_mono (fun _ _ => trivial) h2, h3⟩
      subst eA
      obtain ⟨hcl, hM, hcc⟩ := zz
      obtain ⟨v2, rfl, hRc⟩ := k137_openM hM
      obtain ⟨A2, c2', rfl⟩ := Kd.R_slice hRc
      have z0 : wr.cell? (ad.add (j.toNat * 3)) = some (.int .i64 (rd_T137 L j).f0) := hcc 0 _ rfl
      have z1 : wr.cell? ⟨(ad.add (j.toNat * 3)).block, (ad.add (j.toNat * 3)).off + 1, none⟩ = some (.bool (rd_T137 L j).f1) := by rw [← add_field _ _ 1 (by omega)]; exact hcc 1 _ rfl
      have z2 : wr.cell? ⟨(ad.add (j.toNat * 3)).block, (ad.add (j.toNat * 3)).off + 2, none⟩ = some (.slice A2 (rd_T137 L j).f2.length c2') := by rw [← add_field _ _ 2 (by omega)]; exact hcc 2 _ rfl
      have hjm : rd_T137 L j ∈ L := by rw [hj.out.1]; exact mem_rd hlt
      replace hjm := Lib.hid hjm
      replace hRc := Lib.hid hRc
      clear hcl hM hcc
      replace hlt := Lib.hid hlt
      cases hdn : (rd_T137 L j).f1 with
      | false =>
       rw [hdn] at z1
       replace hdn := Lib.hid hdn
       go_wp2
       go_hide hQ
       go_loopw [44] (fun v44 wi => ∃ (k : Nat) (q : Int) (la : List S150), v44 = .int .i64 q ∧ Hid (q = k ∧ k ≤ (rd_T137 L j).f2.length) ∧ Hid (seatCells (j : Int) ((rd_T137 L j).f2.drop k) k la = seatCells (j : Int) (rd_T137 L j).f2 0 l0) ∧ Hid (la.length = bl.length) ∧ Hid (Kd.R (Kd.int .i64) 3 wi w.heap.size (fun _ => True) (.slice A2 (rd_T137 L j).f2.length c2') (rd_T137 L j).f2) ∧ Hid (SeatW w wi w3.heap.size g0 g1 c0 c1 bl.length (.slice (some ad) L.length cL) L la l1)) (fun v44 _ => (rd_T137 L j).f2.length - (intOf v44).toNat)
       case atStart => exact ⟨0, 0, l0, rfl, Lib.hid ⟨rfl, Nat.zero_le _⟩, Lib.hid (by rw [List.drop_zero]), Lib.hid hll.out.1, Lib.hid (Kd.R_alloc hRc.out _), Lib.hid (hSW.out.below (below_alloc (Below.refl _ _) _))⟩
       case round =>
        obtain ⟨k, q, la, rfl, hk, hsc, hla, hRi, hSi⟩ := hrel
        by_cases hkl : k < (rd_T137 L j).f2.length
        ·have tk : decide (q < ((rd_T137 L j).f2.length : Int)) = true := decide_eq_true (by have := hk.out; omega)
         have hq0 : 0 ≤ q := by have := hk.out; omega
         have hq1 : q < ((rd_T137 L j).f2.length : Int) := by have := hk.out; omega
         obtain ⟨adc, eA, zc⟩ := Kd.at_int (Kd.R_reads' hRi.out).2.2 q hq0 hq1
         cases eA
         have y0 : wr.cell? ⟨w3.heap.size, 0, none⟩ = some (.slice (some ⟨g0, 0, none⟩) bl.length c0) := (blk_cell hSi.out.bx 0).trans rfl
         have y1 : wr.cell? ⟨w3.heap.size, 1, none⟩ = some (.slice (some ⟨g1, 0, none⟩) bl.length c1) := (blk_cell hSi.out.bx 1).trans rfl
         have hci : 0 ≤ rd (rd_T137 L j).f2 q ∧ rd (rd_T137 L j).f2 q < bl.length := by
          rw [hk.out.1]; exact (hLf.out.2 _ hjm.out).2 _ (mem_rdI hkl)
         obtain ⟨ci, hcid⟩ : ∃ ci, rd (rd_T137 L j).f2 q = ci := ⟨_, rfl⟩
         rw [hcid] at zc hci
         obtain ⟨hci0, hci1⟩ := hci
         have tc0 : decide (0 ≤ ci) = true := decide_eq_true hci0
         have tc1 : decide (ci < (bl.length : Int)) = true := decide_eq_true hci1
         replace hcid := Lib.hid hcid
         replace hkl := Lib.hid hkl
         have hcc := seat_cells hSi.out.r0 ci hci0 hci1
         replace hcc := Lib.hid hcc
         go_wp2_with (((with_reducible refine gate_ (.store 150 (.tmp 56) (.tmp 55)) rfl ?_); go_must (refine Kd.R_store k150 (w0 := w) w.heap.size (by rfl) (by rfl) 150 (.tmp 56) (.tmp 55) (by rfl) 150 ci 0 la (⟨j, q⟩ : S150) (.agg #[.int .i64 j, .int .i64 q]) [.int .i64 j, .int .i64 q] [.int .i64 (rd_T150 la ci).f0, .int .i64 (rd_T150 la ci).f1] (fun k_ => some k_ ≠ (Value.slice (some ⟨g1, 0, none⟩) bl.length c1).ownBlock) (fun _ => False) (o' := ci.toNat * 2) (by rfl) (by rfl) (by rfl) (by rfl) (by kernel_rfl) (by simp [Value.oneCell']) hSi.out.r0 hci0 hci1 (by rfl) hcc.out (Nat.le_refl 2) (k150_mkM _ _ _ (⟨j, q⟩ : S150)) (fun _ hk => hk.elim) hSi.out.bl ?_; intro w7 hr7 hb7 hg7; have hS7 := Lib.hid (hSi.out.put0 hr7 hg7 hb7); have hc7 := Lib.hid (Kd.R_over' (v := .slice (some ⟨g0, 0, none⟩) bl.length c0) hRi.out (Kd.R_typed hSi.out.r0) (by decide) hg7); clear hr7 hb7 hg7)))
         obtain ⟨q2, hq2⟩ : ∃ q2, wrap64 (q + 1) = q2 := ⟨_, rfl⟩
         rw [hq2]
         rw [w64 (by omega) (by have := (hLf.out.2 _ hjm.out).1; have := hn.out; omega)] at hq2
         refine ⟨⟨k + 1, q2, _, rfl, Lib.hid ⟨by have := hk.out; omega, hkl.out⟩, Lib.hid ?_, Lib.hid ?_, hc7, hS7⟩, ?_⟩
         ·rw [← hsc.out, drop_rdI hkl.out, ← hk.out.1, hcid.out]
          simp only [seatCells]
          rw [← hk.out.1]
         ·rw [List.length_set]; exact hla.out
         ·simp only [intOf]; have := hk.out; have := hkl.out; omega
        ·have tk : decide (q < ((rd_T137 L j).f2.length : Int)) = false := decide_eq_false (by have := hk.out; omega)
         have hkE : k = (rd_T137 L j).f2.length := by have := hk.out; omega
         have hsE := hsc.out
         rw [hkE, List.drop_length] at hsE
         simp only [seatCells] at hsE
         replace hsE := Lib.hid hsE
         go_wp2
         subst hQ
         go_wp2
         obtain ⟨j2, hj2⟩ : ∃ j2, wrap64 (j + 1) = j2 := ⟨_, rfl⟩
         rw [hj2]
         rw [w64 (by omega) (by have := hLf.out.1; have := hn.out; omega)] at hj2
         refine ⟨⟨m + 1, j2, _, _, rfl, Lib.hid ⟨by have := hj.out; omega, hlt.out⟩, Lib.hid ?_, Lib.hid ⟨hla.out, hll.out.2⟩, hSi⟩, ?_⟩
         ·rw [← hss.out, drop_rd hlt.out, ← hj.out.1]
          simp only [seatS]
          rw [hdn.out, hsE.out, hj.out.1]
          rfl
         ·simp only [intOf]; have := hj.out; have := hlt.out; omega
      | true =>
       rw [hdn] at z1
       replace hdn := Lib.hid hdn
       go_wp2
       go_hide hQ
       go_loopw [44] (fun v44 wi => ∃ (k : Nat) (q : Int) (la : List S150), v44 = .int .i64 q ∧ Hid (q = k ∧ k ≤ (rd_T137 L j).f2.length) ∧ Hid (seatCells (j : Int) ((rd_T137 L j).f2.drop k) k la = seatCells (j : Int) (rd_T137 L j).f2 0 l1) ∧ Hid (la.length = bl.length) ∧ Hid (Kd.R (Kd.int .i64) 3 wi w.heap.size (fun _ => True) (.slice A2 (rd_T137 L j).f2.length c2') (rd_T137 L j).f2) ∧ Hid (SeatW w wi w3.heap.size g0 g1 c0 c1 bl.length (.slice (some ad) L.length cL) L l0 la)) (fun v44 _ => (rd_T137 L j).f2.length - (intOf v44).toNat)
       case atStart => exact ⟨0, 0, l1, rfl, Lib.hid ⟨rfl, Nat.zero_le _⟩, Lib.hid (by rw [List.drop_zero]), Lib.hid hll.out.2, Lib.hid (Kd.R_alloc hRc.out _), Lib.hid (hSW.out.below (below_alloc (Below.refl _ _) _))⟩
       case round =>
        obtain ⟨k, q, la, rfl, hk, hsc, hla, hRi, hSi⟩ := hrel
        by_cases hkl : k < (rd_T137 L j).f2.length
        ·have tk : decide (q < ((rd_T137 L j).f2.length : Int)) = true := decide_eq_true (by have := hk.out; omega)
         have hq0 : 0 ≤ q := by have := hk.out; omega
         have hq1 : q < ((rd_T137 L j).f2.length : Int) := by have := hk.out; omega
         obtain ⟨adc, eA, zc⟩ := Kd.at_int (Kd.R_reads' hRi.out).2.2 q hq0 hq1
         cases eA
         have y0 : wr.cell? ⟨w3.heap.size, 0, none⟩ = some (.slice (some ⟨g0, 0, none⟩) bl.length c0) := (blk_cell hSi.out.bx 0).trans rfl
         have y1 : wr.cell? ⟨w3.heap.size, 1, none⟩ = some (.slice (some ⟨g1, 0, none⟩) bl.length c1) := (blk_cell hSi.out.bx 1).trans rfl
         have hci : 0 ≤ rd (rd_T137 L j).f2 q ∧ rd (rd_T137 L j).f2 q < bl.length := by
          rw [hk.out.1]; exact (hLf.out.2 _ hjm.out).2 _ (mem_rdI hkl)
         obtain ⟨ci, hcid⟩ : ∃ ci, rd (rd_T137 L j).f2 q = ci := ⟨_, rfl⟩
         rw [hcid] at zc hci
         obtain ⟨hci0, hci1⟩ := hci
         have tc0 : decide (0 ≤ ci) = true := decide_eq_true hci0
         have tc1 : decide (ci < (bl.length : Int)) = true := decide_eq_true hci1
         replace hcid := Lib.hid hcid
         replace hkl := Lib.hid hkl
         have hcc := seat_cells hSi.out.r1 ci hci0 hci1
         replace hcc := Lib.hid hcc
         go_wp2_with (((with_reducible refine gate_ (.store 150 (.tmp 56) (.tmp 55)) rfl ?_); go_must (refine Kd.R_store k150 (w0 := w) w.heap.size (by rfl) (by rfl) 150 (.tmp 56) (.tmp 55) (by rfl) 150 ci 0 la (⟨j, q⟩ : S150) (.agg #[.int .i64 j, .int .i64 q]) [.int .i64 j, .int .i64 q] [.int .i64 (rd_T150 la ci).f0, .int .i64 (rd_T150 la ci).f1] (fun k_ => some k_ ≠ (Value.slice (some ⟨g0, 0, none⟩) bl.length c0).ownBlock) (fun _ => False) (o' := ci.toNat * 2) (by rfl) (by rfl) (by rfl) (by rfl) (by kernel_rfl) (by simp [Value.oneCell']) hSi.out.r1 hci0 hci1 (by rfl) hcc.out (Nat.le_refl 2) (k150_mkM _ _ _ (⟨j, q⟩ : S150)) (fun _ hk => hk.elim) hSi.out.bl ?_; intro w7 hr7 hb7 hg7; have hS7 := Lib.hid (hSi.out.put1 hr7 hg7 hb7); have hc7 := Lib.hid (Kd.R_over' (v := .slice (some ⟨g1, 0, none⟩) bl.length c1) hRi.out (Kd.R_typed hSi.out.r1) (by decide) hg7); clear hr7 hb7 hg7)))
         obtain ⟨q2, hq2⟩ : ∃ q2, wrap64 (q + 1) = q2 := ⟨_, rfl⟩
         rw [hq2]
         rw [w64 (by omega) (by have := (hLf.out.2 _ hjm.out).1; have := hn.out; omega)] at hq2
         refine ⟨⟨k + 1, q2, _, rfl, Lib.hid ⟨by have := hk.out; omega, hkl.out⟩, Lib.hid ?_, Lib.hid ?_, hc7, hS7⟩, ?_⟩
         ·rw [← hsc.out, drop_rdI hkl.out, ← hk.out.1, hcid.out]
          simp only [seatCells]
          rw [← hk.out.1]
         ·rw [List.length_set]; exact hla.out
         ·simp only [intOf]; have := hk.out; have := hkl.out; omega
        ·have tk : decide (q < ((rd_T137 L j).f2.length : Int)) = false := decide_eq_false (by have := hk.out; omega)
         have hkE : k = (rd_T137 L j).f2.length := by have := hk.out; omega
         have hsE := hsc.out
         rw [hkE, List.drop_length] at hsE
         simp only [seatCells] at hsE
         replace hsE := Lib.hid hsE
         go_wp2
         subst hQ
         go_wp2
         obtain ⟨j2, hj2⟩ : ∃ j2, wrap64 (j + 1) = j2 := ⟨_, rfl⟩
         rw [hj2]
         rw [w64 (by omega) (by have := hLf.out.1; have := hn.out; omega)] at hj2
         refine ⟨⟨m + 1, j2, _, _, rfl, Lib.hid ⟨by have := hj.out; omega, hlt.out⟩, Lib.hid ?_, Lib.hid ⟨hll.out.1, hla.out⟩, hSi⟩, ?_⟩
         ·rw [← hss.out, drop_rd hlt.out, ← hj.out.1]
          simp only [seatS]
          rw [hdn.out, hsE.out, hj.out.1]
          rfl
         ·simp only [intOf]; have := hj.out; have := hlt.out; omega
     ·have tlt : decide (j < (L.length : Int)) = false := decide_eq_false (by have := hj.out; omega)
      have hmE : m = L.length := by have := hj.out; omega
      have hsE := hss.out
      rw [hmE, List.drop_length] at hsE
      simp only [seatS, Prod.mk.injEq] at hsE
      obtain ⟨rfl, rfl⟩ := hsE
      have y0 : wr.cell? ⟨w3.heap.size, 0, none⟩ = some (.slice (some ⟨g0, 0, none⟩) bl.length c0) := (blk_cell hSW.out.bx 0).trans rfl
      have y1 : wr.cell? ⟨w3.heap.size, 1, none⟩ = some (.slice (some ⟨g1, 0, none⟩) bl.length c1) := (blk_cell hSW.out.bx 1).trans rfl
      go_wp2
      go_quiet (fail)
      go_wp2
      go_ret2
      exact ⟨_, _, rfl, Kd.R_drewN hSW.out.r0 _, Kd.R_drewN hSW.out.r1 _, pw_below_drewN hSW.out.bl _⟩
 ·have hrr : r1 = [] ∧ r2 = [] := by
   unfold slots_Seats.f seatsOf at h
   rw [if_neg hok] at h
   simp only [Option.some.injEq, Prod.mk.injEq] at h
   exact ⟨h.1.symm, h.2.symm⟩
  obtain ⟨rfl, rfl⟩ := hrr
  clear h
  obtain ⟨er, her⟩ : ∃ e, gcheck H W bl ri be = e := ⟨_, rfl⟩
  rw [her] at hck hok
  have hne : (er != 0) = true := bne_iff_ne.2 hok
  replace hck := Lib.hid hck
  replace her := Lib.hid her
  go_enter Tryz.func93, Tryz.ntmps93
  go_wp2_with (first | (go_at_call 59; refine (grid_Check.calls _ _ _ _ _ _ _ _ _ _ _ _ _ _ (Kd.C_below h2 (below_alloc (Below.refl _ _) _)) hc2 (Kd.C_below h3 (below_alloc (Below.refl _ _) _)) hc3 (Kd.C_below h4 (below_alloc (Below.refl _ _) _)) hc4 hck.out).mono ?_; rintro e w3 ⟨rfl, hb3⟩))
  go_ret2
  exact ⟨_, _, rfl, Kd.R_nil _ _ _ _ _, Kd.R_nil _ _ _ _ _, (below_alloc (Below.refl _ _) _).trans (hb3.mono (below_alloc (Below.refl _ _) _).size)⟩
end Go.Proofs.YtjopbfidjapmbaaGreatDoor.Q
end
