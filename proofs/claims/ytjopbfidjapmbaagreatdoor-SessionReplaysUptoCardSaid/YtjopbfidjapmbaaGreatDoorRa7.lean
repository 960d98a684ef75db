/- PART 7 OF A PROOF: Lean functions, and that the program computes them; written by hand and by a program. Not trusted: Lean checks it. -/
import Derived.Test.YtjopbfidjapmbaaGreatDoorRa3
import Derived.Test.YtjopbfidjapmbaaGreatDoorRa4
import Derived.Test.YtjopbfidjapmbaaGreatDoorRa6
set_option linter.unusedVariables false
set_option linter.unusedSimpArgs false
section
namespace Go.Proofs.YtjopbfidjapmbaaGreatDoor.Q
open Go.RowKit Go.Proofs.YtjopbfidjapmbaaGreatDoorW.PrintWords Go.Proofs.YtjopbfidjapmbaaGreatDoorW.PrintLast Go.Proofs.YtjopbfidjapmbaaGreatDoorW.PrintMore
attribute [local go_sem] max2_int min2_int max_two min_two max_three min_three max_four min_four
set_option linter.unusedVariables false
set_option linter.unusedSimpArgs false
open Go.Proofs.YtjopbfidjapmbaaGreatDoorS
def grid_step.f (a0_0 a0_1 : Int) (l0_2 l0_3 l0_4 : List Bool) (a1 a2 : Int) : Option (Int × Bool) :=
 if (1 ≤ a0_0 ∧ a0_0 ≤ 16) ∧ (1 ≤ a0_1 ∧ a0_1 ≤ 16) ∧ ((l0_2.length : Int) = a0_0 * a0_1 ∧ (l0_3.length : Int) = a0_0 * a0_1 ∧ (l0_4.length : Int) = a0_0 * a0_1) ∧ (0 ≤ a1 ∧ a1 < a0_0 * a0_1) ∧ (0 ≤ a2 ∧ a2 ≤ 3) then some (gstep a0_0 a0_1 l0_2 l0_3 l0_4 a1 a2) else none
theorem way0 (w : World) : (Instr.index 189 waysV (.int .i64 0)).run Tryz.prog w = .ok (.agg #[.int .i64 0, .int .i64 1]) w := by kernel_rfl
theorem way1 (w : World) : (Instr.index 189 waysV (.int .i64 1)).run Tryz.prog w = .ok (.agg #[.int .i64 1, .int .i64 0]) w := by kernel_rfl
theorem way2 (w : World) : (Instr.index 189 waysV (.int .i64 2)).run Tryz.prog w = .ok (.agg #[.int .i64 0, .int .i64 (-1)]) w := by kernel_rfl
theorem way3 (w : World) : (Instr.index 189 waysV (.int .i64 3)).run Tryz.prog w = .ok (.agg #[.int .i64 (-1), .int .i64 0]) w := by kernel_rfl
def StepPost (r : Int × Bool) (w : World) (e : Ending) (w' : World) : Prop := e = .returned (.tuple #[.int .i64 r.1, .bool r.2]) ∧ Below w.heap.size w w'
set_option maxHeartbeats 4000000 in
set_option maxRecDepth 1000000 in
theorem grid_step0 (H W : Int) (A2 : Option Addr) (c2 : Nat) (l2 : List Bool) (A3 : Option Addr) (c3 : Nat) (l3 : List Bool) (A4 : Option Addr) (c4 : Nat) (l4 : List Bool) (i : Int) (w : World)
  (h2 : Kd.C Kd.bool w A2 l2.length l2) (h3 : Kd.C Kd.bool w A3 l3.length l3) (h4 : Kd.C Kd.bool w A4 l4.length l4)
  (hH : 1 ≤ H ∧ H ≤ 16) (hW : 1 ≤ W ∧ W ≤ 16) (hl : (l2.length : Int) = H * W ∧ (l3.length : Int) = H * W ∧ (l4.length : Int) = H * W) (hi : 0 ≤ i ∧ i < H * W) :
  Calls Tryz.prog 105 #[.agg #[.int .i64 H, .int .i64 W, .slice A2 l2.length c2, .slice A3 l3.length c3, .slice A4 l4.length c4], .int .i64 i, .int .i64 0] w (StepPost (gstep H W l2 l3 l4 i 0) w) := by
 obtain ⟨q, hq⟩ : ∃ q, i / W = q := ⟨_, rfl⟩
 obtain ⟨m, hm⟩ : ∃ m, i % W = m := ⟨_, rfl⟩
 obtain ⟨p, hp⟩ : ∃ p, q * W = p := ⟨_, rfl⟩
 obtain ⟨p2, hp2⟩ : ∃ p2, (q + 0) * W = p2 := ⟨_, rfl⟩
 obtain ⟨n, hn⟩ : ∃ n, H * W = n := ⟨_, rfl⟩
 have hi0 := hi.1
 have hW1 := hW.1
 have hW2 := hW.2
 have hH1 := hH.1
 have hH2 := hH.2
 have hm0 : 0 ≤ m := by rw [← hm]; exact Int.emod_nonneg _ (by omega)
 have hmW : m < W := by rw [← hm]; exact Int.emod_lt_of_pos _ (by omega)
 have hsum : p + m = i := by rw [← hp, ← hq, ← hm]; have := Int.mul_ediv_add_emod i W; rw [Int.mul_comm]; omega
 have hq0 : 0 ≤ q := by rw [← hq]; exact Int.ediv_nonneg hi0 (by omega)
 have hqH : q < H := by rw [← hq]; exact Int.ediv_lt_of_lt_mul (by omega) hi.2
 have hp0 : 0 ≤ p := by rw [← hp]; exact Int.mul_nonneg hq0 (by omega)
 have hpn : p + W ≤ n := by
  have h1 : (q + 1) * W ≤ H * W := Int.mul_le_mul_of_nonneg_right (by omega) (by omega)
  rw [Int.add_mul, Int.one_mul] at h1
  omega
 have hn256 : n ≤ 256 := by
  have h1 : H * W ≤ 16 * 16 := Int.mul_le_mul hH2 hW2 (by omega) (by omega)
  omega
 have hp2v : p2 = p + 0 * W := by rw [← hp2, Int.add_mul, hp]
 have hin : m + 1 < W → 0 ≤ p2 ∧ p2 + W ≤ n := by
  intro hc
  have h1 : (q + 1) * W ≤ H * W := Int.mul_le_mul_of_nonneg_right (by omega) (by omega)
  have h0 : 0 * W ≤ (q + 0) * W := Int.mul_le_mul_of_nonneg_right (by omega) (by omega)
  rw [Int.add_mul, Int.one_mul] at h1
  rw [Int.zero_mul, hp2] at h0
  rw [hp] at h1
  omega
 have hdq : wrap64 (i.tdiv W) = q := by
  rw [Int.tdiv_eq_ediv_of_nonneg hi0, hq]
  unfold wrap64
  omega
 have hqq : wrap64 q = q := by unfold wrap64; omega
 have hqw : wrap64 ((q + 0) * W) = p2 := by rw [hp2]; unfold wrap64; omega
 have hp2p : p2 = p := by omega
 subst hp2p
 rw [Int.add_zero] at hqw hp2
 rw [hn] at hl hi
 by_cases hc : m + 1 < W
 ·have hin := hin hc
  obtain ⟨ad2, rfl, hx2⟩ := Kd.at_bool h2 (p2 + (m + 1)) (by omega) (by omega)
  obtain ⟨ad3, rfl, hx3⟩ := Kd.at_bool h3 i (by omega) (by omega)
  have hres : gstep H W l2 l3 l4 i 0 = if rdOf false l2 (p2 + (m + 1)) then (0, false) else if rdOf false l3 i then (0, false) else ((p2 + (m + 1)), true) := by
   unfold gstep gat rdOf
   simp only [show (gby 0).1 = 0 from rfl, show (gby 0).2 = 1 from rfl, hq, hm, Int.add_zero]
   rw [hp]
   rw [if_neg (by omega), Int.min_eq_left (by omega)]
   simp
  have hmn : ¬ ((p2 + (m + 1)) < i) := by omega
  have hil : i < (l3.length : Int) := by omega
  have hjl : (p2 + (m + 1)) < (l2.length : Int) := by omega
  have hj0 : 0 ≤ (p2 + (m + 1)) := by omega
  clear hl hi hn hsum hH hW hp2v
  cases hb2 : rdOf false l2 (p2 + (m + 1)) <;> cases hb3 : rdOf false l3 i <;> rw [hb2] at hx2 <;> rw [hb3] at hx3 <;> rw [hb2, hb3] at hres <;> simp only [if_true, if_false, Bool.false_eq_true] at hres
  all_goals
   replace hres := Lib.hid hres
   have hway := way0
   go_enter Tryz.func105, Tryz.ntmps105
   go_wp2_with (go_at_call 125; refine (grid_ways.calls _).mono ?_; rintro e w1 ⟨rfl, hb1⟩)
   generalize hW2 : w1.alloc (.cells #[.int .i64 0, .int .i64 1] 188) = W2
   have hB2 : Below w.heap.size w W2 := by rw [← hW2]; exact (((Below.refl _ w).alloc (Nat.le_refl _) _).trans (hb1.mono (by simp))).alloc (by have := hb1.size; simp at this; omega) _
   have hbx0 : W2.cell? ⟨w.heap.size, 0, none⟩ = some (.int .i64 H) := by rw [← hW2]; exact cell_old1 (cell_below1 hb1 (by simp)) _
   have hbx1 : W2.cell? ⟨w.heap.size, 1, none⟩ = some (.int .i64 W) := by rw [← hW2]; exact cell_old1 (cell_below1 hb1 (by simp)) _
   have hbx2 : W2.cell? ⟨w.heap.size, 2, none⟩ = some (.slice (some ad2) l2.length c2) := by rw [← hW2]; exact cell_old1 (cell_below1 hb1 (by simp)) _
   have hbx3 : W2.cell? ⟨w.heap.size, 3, none⟩ = some (.slice (some ad3) l3.length c3) := by rw [← hW2]; exact cell_old1 (cell_below1 hb1 (by simp)) _
   have hbx4 : W2.cell? ⟨w.heap.size, 4, none⟩ = some (.slice A4 l4.length c4) := by rw [← hW2]; exact cell_old1 (cell_below1 hb1 (by simp)) _
   have hby0 : W2.cell? ⟨w1.heap.size, 0, none⟩ = some (.int .i64 0) := by rw [← hW2]; simp
   have hby1 : W2.cell? ⟨w1.heap.size, 1, none⟩ = some (.int .i64 1) := by rw [← hW2]; simp
   replace hx2 := cell_below1 hB2 hx2
   replace hx3 := cell_below1 hB2 hx3
   clear hW2
   go_quiet (fail)
   go_wp2
  all_goals go_ret2
  all_goals rw [hres.out]
  all_goals exact ⟨rfl, pw_below_drewN hB2 _⟩
 ·have hres : gstep H W l2 l3 l4 i 0 = (0, false) := by
   unfold gstep
   simp only [show (gby 0).1 = 0 from rfl, show (gby 0).2 = 1 from rfl, hq, hm, Int.add_zero]
   rw [if_pos (by omega)]
  replace hres := Lib.hid hres
  have hway := way0
  clear hl hi hn hsum hH hW hp2v hin
  go_enter Tryz.func105, Tryz.ntmps105
  go_wp2_with (go_at_call 125; refine (grid_ways.calls _).mono ?_; rintro e w1 ⟨rfl, hb1⟩)
  generalize hW2 : w1.alloc (.cells #[.int .i64 0, .int .i64 1] 188) = W2
  have hB2 : Below w.heap.size w W2 := by rw [← hW2]; exact (((Below.refl _ w).alloc (Nat.le_refl _) _).trans (hb1.mono (by simp))).alloc (by have := hb1.size; simp at this; omega) _
  have hbx0 : W2.cell? ⟨w.heap.size, 0, none⟩ = some (.int .i64 H) := by rw [← hW2]; exact cell_old1 (cell_below1 hb1 (by simp)) _
  have hbx1 : W2.cell? ⟨w.heap.size, 1, none⟩ = some (.int .i64 W) := by rw [← hW2]; exact cell_old1 (cell_below1 hb1 (by simp)) _
  have hby0 : W2.cell? ⟨w1.heap.size, 0, none⟩ = some (.int .i64 0) := by rw [← hW2]; simp
  have hby1 : W2.cell? ⟨w1.heap.size, 1, none⟩ = some (.int .i64 1) := by rw [← hW2]; simp
  clear hW2
  go_quiet (fail)
  go_wp2
  all_goals go_ret2
  all_goals rw [hres.out]
  all_goals exact ⟨rfl, pw_below_drewN hB2 _⟩
set_option maxHeartbeats 4000000 in
set_option maxRecDepth 1000000 in
theorem grid_step1 (H W : Int) (A2 : Option Addr) (c2 : Nat) (l2 : List Bool) (A3 : Option Addr) (c3 : Nat) (l3 : List Bool) (A4 : Option Addr) (c4 : Nat) (l4 : List Bool) (i : Int) (w : World)
  (h2 : Kd.C Kd.bool w A2 l2.length l2) (h3 : Kd.C Kd.bool w A3 l3.length l3) (h4 : Kd.C Kd.bool w A4 l4.length l4)
  (hH : 1 ≤ H ∧ H ≤ 16) (hW : 1 ≤ W ∧ W ≤ 16) (hl : (l2.length : Int) = H * W ∧ (l3.length : Int) = H * W ∧ (l4.length : Int) = H * W) (hi : 0 ≤ i ∧ i < H * W) :
  Calls Tryz.prog 105 #[.agg #[.int .i64 H, .int .i64 W, .slice A2 l2.length c2, .slice A3 l3.length c3, .slice A4 l4.length c4], .int .i64 i, .int .i64 1] w (StepPost (gstep H W l2 l3 l4 i 1) w) := by
 obtain ⟨q, hq⟩ : ∃ q, i / W = q := ⟨_, rfl⟩
 obtain ⟨m, hm⟩ : ∃ m, i % W = m := ⟨_, rfl⟩
 obtain ⟨p, hp⟩ : ∃ p, q * W = p := ⟨_, rfl⟩
 obtain ⟨p2, hp2⟩ : ∃ p2, (q + 1) * W = p2 := ⟨_, rfl⟩
 obtain ⟨n, hn⟩ : ∃ n, H * W = n := ⟨_, rfl⟩
 have hi0 := hi.1
 have hW1 := hW.1
 have hW2 := hW.2
 have hH1 := hH.1
 have hH2 := hH.2
 have hm0 : 0 ≤ m := by rw [← hm]; exact Int.emod_nonneg _ (by omega)
 have hmW : m < W := by rw [← hm]; exact Int.emod_lt_of_pos _ (by omega)
 have hsum : p + m = i := by rw [← hp, ← hq, ← hm]; have := Int.mul_ediv_add_emod i W; rw [Int.mul_comm]; omega
 have hq0 : 0 ≤ q := by rw [← hq]; exact Int.ediv_nonneg hi0 (by omega)
 have hqH : q < H := by rw [← hq]; exact Int.ediv_lt_of_lt_mul (by omega) hi.2
 have hp0 : 0 ≤ p := by rw [← hp]; exact Int.mul_nonneg hq0 (by omega)
 have hpn : p + W ≤ n := by
  have h1 : (q + 1) * W ≤ H * W := Int.mul_le_mul_of_nonneg_right (by omega) (by omega)
  rw [Int.add_mul, Int.one_mul] at h1
  omega
 have hn256 : n ≤ 256 := by
  have h1 : H * W ≤ 16 * 16 := Int.mul_le_mul hH2 hW2 (by omega) (by omega)
  omega
 have hp2v : p2 = p + 1 * W := by rw [← hp2, Int.add_mul, hp]
 have hin : q + 1 < H → 0 ≤ p2 ∧ p2 + W ≤ n := by
  intro hc
  have h1 : (q + 1 + 1) * W ≤ H * W := Int.mul_le_mul_of_nonneg_right (by omega) (by omega)
  have h0 : 0 * W ≤ (q + 1) * W := Int.mul_le_mul_of_nonneg_right (by omega) (by omega)
  rw [Int.add_mul, Int.one_mul] at h1
  rw [Int.zero_mul, hp2] at h0
  rw [hp2] at h1
  omega
 have hdq : wrap64 (i.tdiv W) = q := by
  rw [Int.tdiv_eq_ediv_of_nonneg hi0, hq]
  unfold wrap64
  omega
 have hqq : wrap64 q = q := by unfold wrap64; omega
 have hqw : wrap64 ((q + 1) * W) = p2 := by rw [hp2]; unfold wrap64; omega
 rw [hn] at hl hi
 by_cases hc : q + 1 < H
 ·have hin := hin hc
  obtain ⟨ad2, rfl, hx2⟩ := Kd.at_bool h2 (p2 + m) (by omega) (by omega)
  obtain ⟨ad3, rfl, hx3⟩ := Kd.at_bool h4 i (by omega) (by omega)
  have hres : gstep H W l2 l3 l4 i 1 = if rdOf false l2 (p2 + m) then (0, false) else if rdOf false l4 i then (0, false) else ((p2 + m), true) := by
   unfold gstep gat rdOf
   simp only [show (gby 1).1 = 1 from rfl, show (gby 1).2 = 0 from rfl, hq, hm, Int.add_zero]
   rw [hp2]
   rw [if_neg (by omega), Int.min_eq_left (by omega)]
   simp
  have hmn : ¬ ((p2 + m) < i) := by omega
  have hil : i < (l4.length : Int) := by omega
  have hjl : (p2 + m) < (l2.length : Int) := by omega
  have hj0 : 0 ≤ (p2 + m) := by omega
  clear hl hi hn hsum hH hW hp2v
  cases hb2 : rdOf false l2 (p2 + m) <;> cases hb3 : rdOf false l4 i <;> rw [hb2] at hx2 <;> rw [hb3] at hx3 <;> rw [hb2, hb3] at hres <;> simp only [if_true, if_false, Bool.false_eq_true] at hres
  all_goals
   replace hres := Lib.hid hres
   have hway := way1
   go_enter Tryz.func105, Tryz.ntmps105
   go_wp2_with (go_at_call 125; refine (grid_ways.calls _).mono ?_; rintro e w1 ⟨rfl, hb1⟩)
   generalize hW2 : w1.alloc (.cells #[.int .i64 1, .int .i64 0] 188) = W2
   have hB2 : Below w.heap.size w W2 := by rw [← hW2]; exact (((Below.refl _ w).alloc (Nat.le_refl _) _).trans (hb1.mono (by simp))).alloc (by have := hb1.size; simp at this; omega) _
   have hbx0 : W2.cell? ⟨w.heap.size, 0, none⟩ = some (.int .i64 H) := by rw [← hW2]; exact cell_old1 (cell_below1 hb1 (by simp)) _
   have hbx1 : W2.cell? ⟨w.heap.size, 1, none⟩ = some (.int .i64 W) := by rw [← hW2]; exact cell_old1 (cell_below1 hb1 (by simp)) _
   have hbx2 : W2.cell? ⟨w.heap.size, 2, none⟩ = some (.slice (some ad2) l2.length c2) := by rw [← hW2]; exact cell_old1 (cell_below1 hb1 (by simp)) _
   have hbx3 : W2.cell? ⟨w.heap.size, 3, none⟩ = some (.slice A3 l3.length c3) := by rw [← hW2]; exact cell_old1 (cell_below1 hb1 (by simp)) _
   have hbx4 : W2.cell? ⟨w.heap.size, 4, none⟩ = some (.slice (some ad3) l4.length c4) := by rw [← hW2]; exact cell_old1 (cell_below1 hb1 (by simp)) _
   have hby0 : W2.cell? ⟨w1.heap.size, 0, none⟩ = some (.int .i64 1) := by rw [← hW2]; simp
   have hby1 : W2.cell? ⟨w1.heap.size, 1, none⟩ = some (.int .i64 0) := by rw [← hW2]; simp
   replace hx2 := cell_below1 hB2 hx2
   replace hx3 := cell_below1 hB2 hx3
   clear hW2
   go_quiet (fail)
   go_wp2
  all_goals go_ret2
  all_goals rw [hres.out]
  all_goals exact ⟨rfl, pw_below_drewN hB2 _⟩
 ·have hres : gstep H W l2 l3 l4 i 1 = (0, false) := by
   unfold gstep
   simp only [show (gby 1).1 = 1 from rfl, show (gby 1).2 = 0 from rfl, hq, hm, Int.add_zero]
   rw [if_pos (by omega)]
  replace hres := Lib.hid hres
  have hway := way1
  clear hl hi hn hsum hH hW hp2v hin
  go_enter Tryz.func105, Tryz.ntmps105
  go_wp2_with (go_at_call 125; refine (grid_ways.calls _).mono ?_; rintro e w1 ⟨rfl, hb1⟩)
  generalize hW2 : w1.alloc (.cells #[.int .i64 1, .int .i64 0] 188) = W2
  have hB2 : Below w.heap.size w W2 := by rw [← hW2]; exact (((Below.refl _ w).alloc (Nat.le_refl _) _).trans (hb1.mono (by simp))).alloc (by have := hb1.size; simp at this; omega) _
  have hbx0 : W2.cell? ⟨w.heap.size, 0, none⟩ = some (.int .i64 H) := by rw [← hW2]; exact cell_old1 (cell_below1 hb1 (by simp)) _
  have hbx1 : W2.cell? ⟨w.heap.size, 1, none⟩ = some (.int .i64 W) := by rw [← hW2]; exact cell_old1 (cell_below1 hb1 (by simp)) _
  have hby0 : W2.cell? ⟨w1.heap.size, 0, none⟩ = some (.int .i64 1) := by rw [← hW2]; simp
  have hby1 : W2.cell? ⟨w1.heap.size, 1, none⟩ = some (.int .i64 0) := by rw [← hW2]; simp
  clear hW2
  go_quiet (fail)
  go_wp2
  all_goals go_ret2
  all_goals rw [hres.out]
  all_goals exact ⟨rfl, pw_below_drewN hB2 _⟩
set_option maxHeartbeats 4000000 in
set_option maxRecDepth 1000000 in
theorem grid_step2 (H W : Int) (A2 : Option Addr) (c2 : Nat) (l2 : List Bool) (A3 : Option Addr) (c3 : Nat) (l3 : List Bool) (A4 : Option Addr) (c4 : Nat) (l4 : List Bool) (i : Int) (w : World)
  (h2 : Kd.C Kd.bool w A2 l2.length l2) (h3 : Kd.C Kd.bool w A3 l3.length l3) (h4 : Kd.C Kd.bool w A4 l4.length l4)
  (hH : 1 ≤ H ∧ H ≤ 16) (hW : 1 ≤ W ∧ W ≤ 16) (hl : (l2.length : Int) = H * W ∧ (l3.length : Int) = H * W ∧ (l4.length : Int) = H * W) (hi : 0 ≤ i ∧ i < H * W) :
  Calls Tryz.prog 105 #[.agg #[.int .i64 H, .int .i64 W, .slice A2 l2.length c2, .slice A3 l3.length c3, .slice A4 l4.length c4], .int .i64 i, .int .i64 2] w (StepPost (gstep H W l2 l3 l4 i 2) w) := by
 obtain ⟨q, hq⟩ : ∃ q, i / W = q := ⟨_, rfl⟩
 obtain ⟨m, hm⟩ : ∃ m, i % W = m := ⟨_, rfl⟩
 obtain ⟨p, hp⟩ : ∃ p, q * W = p := ⟨_, rfl⟩
 obtain ⟨p2, hp2⟩ : ∃ p2, (q + 0) * W = p2 := ⟨_, rfl⟩
 obtain ⟨n, hn⟩ : ∃ n, H * W = n := ⟨_, rfl⟩
 have hi0 := hi.1
 have hW1 := hW.1
 have hW2 := hW.2
 have hH1 := hH.1
 have hH2 := hH.2
 have hm0 : 0 ≤ m := by rw [← hm]; exact Int.emod_nonneg _ (by omega)
 have hmW : m < W := by rw [← hm]; exact Int.emod_lt_of_pos _ (by omega)
 have hsum : p + m = i := by rw [← hp, ← hq, ← hm]; have := Int.mul_ediv_add_emod i W; rw [Int.mul_comm]; omega
 have hq0 : 0 ≤ q := by rw [← hq]; exact Int.ediv_nonneg hi0 (by omega)
 have hqH : q < H := by rw [← hq]; exact Int.ediv_lt_of_lt_mul (by omega) hi.2
 have hp0 : 0 ≤ p := by rw [← hp]; exact Int.mul_nonneg hq0 (by omega)
 have hpn : p + W ≤ n := by
  have h1 : (q + 1) * W ≤ H * W := Int.mul_le_mul_of_nonneg_right (by omega) (by omega)
  rw [Int.add_mul, Int.one_mul] at h1
  omega
 have hn256 : n ≤ 256 := by
  have h1 : H * W ≤ 16 * 16 := Int.mul_le_mul hH2 hW2 (by omega) (by omega)
  omega
 have hp2v : p2 = p + 0 * W := by rw [← hp2, Int.add_mul, hp]
 have hin : 0 ≤ m + -1 → 0 ≤ p2 ∧ p2 + W ≤ n := by
  intro hc
  have h1 : (q + 1) * W ≤ H * W := Int.mul_le_mul_of_nonneg_right (by omega) (by omega)
  have h0 : 0 * W ≤ (q + 0) * W := Int.mul_le_mul_of_nonneg_right (by omega) (by omega)
  rw [Int.add_mul, Int.one_mul] at h1
  rw [Int.zero_mul, hp2] at h0
  rw [hp] at h1
  omega
 have hdq : wrap64 (i.tdiv W) = q := by
  rw [Int.tdiv_eq_ediv_of_nonneg hi0, hq]
  unfold wrap64
  omega
 have hqq : wrap64 q = q := by unfold wrap64; omega
 have hqw : wrap64 ((q + 0) * W) = p2 := by rw [hp2]; unfold wrap64; omega
 have hp2p : p2 = p := by omega
 subst hp2p
 rw [Int.add_zero] at hqw hp2
 rw [hn] at hl hi
 by_cases hc : 0 ≤ m + -1
 ·have hin := hin hc
  obtain ⟨ad2, rfl, hx2⟩ := Kd.at_bool h2 (p2 + (m + -1)) (by omega) (by omega)
  obtain ⟨ad3, rfl, hx3⟩ := Kd.at_bool h3 (p2 + (m + -1)) (by omega) (by omega)
  have hres : gstep H W l2 l3 l4 i 2 = if rdOf false l2 (p2 + (m + -1)) then (0, false) else if rdOf false l3 (p2 + (m + -1)) then (0, false) else ((p2 + (m + -1)), true) := by
   unfold gstep gat rdOf
   simp only [show (gby 2).1 = 0 from rfl, show (gby 2).2 = (-1) from rfl, hq, hm, Int.add_zero]
   rw [hp]
   rw [if_neg (by omega), Int.min_eq_right (by omega)]
   simp
  have hmn : (p2 + (m + -1)) < i := by omega
  have hil : (p2 + (m + -1)) < (l3.length : Int) := by omega
  have hjl : (p2 + (m + -1)) < (l2.length : Int) := by omega
  have hj0 : 0 ≤ (p2 + (m + -1)) := by omega
  clear hl hi hn hsum hH hW hp2v
  cases hb2 : rdOf false l2 (p2 + (m + -1)) <;> cases hb3 : rdOf false l3 (p2 + (m + -1)) <;> rw [hb2] at hx2 <;> rw [hb3] at hx3 <;> rw [hb2, hb3] at hres <;> simp only [if_true, if_false, Bool.false_eq_true] at hres
  all_goals
   replace hres := Lib.hid hres
   have hway := way2
   go_enter Tryz.func105, Tryz.ntmps105
   go_wp2_with (go_at_call 125; refine (grid_ways.calls _).mono ?_; rintro e w1 ⟨rfl, hb1⟩)
   generalize hW2 : w1.alloc (.cells #[.int .i64 0, .int .i64 (-1)] 188) = W2
   have hB2 : Below w.heap.size w W2 := by rw [← hW2]; exact (((Below.refl _ w).alloc (Nat.le_refl _) _).trans (hb1.mono (by simp))).alloc (by have := hb1.size; simp at this; omega) _
   have hbx0 : W2.cell? ⟨w.heap.size, 0, none⟩ = some (.int .i64 H) := by rw [← hW2]; exact cell_old1 (cell_below1 hb1 (by simp)) _
   have hbx1 : W2.cell? ⟨w.heap.size, 1, none⟩ = some (.int .i64 W) := by rw [← hW2]; exact cell_old1 (cell_below1 hb1 (by simp)) _
   have hbx2 : W2.cell? ⟨w.heap.size, 2, none⟩ = some (.slice (some ad2) l2.length c2) := by rw [← hW2]; exact cell_old1 (cell_below1 hb1 (by simp)) _
   have hbx3 : W2.cell? ⟨w.heap.size, 3, none⟩ = some (.slice (some ad3) l3.length c3) := by rw [← hW2]; exact cell_old1 (cell_below1 hb1 (by simp)) _
   have hbx4 : W2.cell? ⟨w.heap.size, 4, none⟩ = some (.slice A4 l4.length c4) := by rw [← hW2]; exact cell_old1 (cell_below1 hb1 (by simp)) _
   have hby0 : W2.cell? ⟨w1.heap.size, 0, none⟩ = some (.int .i64 0) := by rw [← hW2]; simp
   have hby1 : W2.cell? ⟨w1.heap.size, 1, none⟩ = some (.int .i64 (-1)) := by rw [← hW2]; simp
   replace hx2 := cell_below1 hB2 hx2
   replace hx3 := cell_below1 hB2 hx3
   clear hW2
   go_quiet (fail)
   go_wp2
  all_goals go_ret2
  all_goals rw [hres.out]
  all_goals exact ⟨rfl, pw_below_drewN hB2 _⟩
 ·have hres : gstep H W l2 l3 l4 i 2 = (0, false) := by
   unfold gstep
   simp only [show (gby 2).1 = 0 from rfl, show (gby 2).2 = (-1) from rfl, hq, hm, Int.add_zero]
   rw [if_pos (by omega)]
  replace hres := Lib.hid hres
  have hway := way2
  clear hl hi hn hsum hH hW hp2v hin
  go_enter Tryz.func105, Tryz.ntmps105
  go_wp2_with (go_at_call 125; refine (grid_ways.calls _).mono ?_; rintro e w1 ⟨rfl, hb1⟩)
  generalize hW2 : w1.alloc (.cells #[.int .i64 0, .int .i64 (-1)] 188) = W2
  have hB2 : Below w.heap.size w W2 := by rw [← hW2]; exact (((Below.refl _ w).alloc (Nat.le_refl _) _).trans (hb1.mono (by simp))).alloc (by have := hb1.size; simp at this; omega) _
  have hbx0 : W2.cell? ⟨w.heap.size, 0, none⟩ = some (.int .i64 H) := by rw [← hW2]; exact cell_old1 (cell_below1 hb1 (by simp)) _
  have hbx1 : W2.cell? ⟨w.heap.size, 1, none⟩ = some (.int .i64 W) := by rw [← hW2]; exact cell_old1 (cell_below1 hb1 (by simp)) _
  have hby0 : W2.cell? ⟨w1.heap.size, 0, none⟩ = some (.int .i64 0) := by rw [← hW2]; simp
  have hby1 : W2.cell? ⟨w1.heap.size, 1, none⟩ = some (.int .i64 (-1)) := by rw [← hW2]; simp
  clear hW2
  go_quiet (fail)
  go_wp2
  all_goals go_ret2
  all_goals rw [hres.out]
  all_goals exact ⟨rfl, pw_below_drewN hB2 _⟩
set_option maxHeartbeats 4000000 in
set_option maxRecDepth 1000000 in
theorem grid_step3 (H W : Int) (A2 : Option Addr) (c2 : Nat) (l2 : List Bool) (A3 : Option Addr) (c3 : Nat) (l3 : List Bool) (A4 : Option Addr) (c4 : Nat) (l4 : List Bool) (i : Int) (w : World)
  (h2 : Kd.C Kd.bool w A2 l2.length l2) (h3 : Kd.C Kd.bool w A3 l3.length l3) (h4 : Kd.C Kd.bool w A4 l4.length l4)
  (hH : 1 ≤ H ∧ H ≤ 16) (hW : 1 ≤ W ∧ W ≤ 16) (hl : (l2.length : Int) = H * W ∧ (l3.length : Int) = H * W ∧ (l4.length : Int) = H * W) (hi : 0 ≤ i ∧ i < H * W) :
  Calls Tryz.prog 105 #[.agg #[.int .i64 H, .int .i64 W, .slice A2 l2.length c2, .slice A3 l3.length c3, .slice A4 l4.length c4], .int .i64 i, .int .i64 3] w (StepPost (gstep H W l2 l3 l4 i 3) w) := by
 obtain ⟨q, hq⟩ : ∃ q, i / W = q := ⟨_, rfl⟩
 obtain ⟨m, hm⟩ : ∃ m, i % W = m := ⟨_, rfl⟩
 obtain ⟨p, hp⟩ : ∃ p, q * W = p := ⟨_, rfl⟩
 obtain ⟨p2, hp2⟩ : ∃ p2, (q + (-1)) * W = p2 := ⟨_, rfl⟩
 obtain ⟨n, hn⟩ : ∃ n, H * W = n := ⟨_, rfl⟩
 have hi0 := hi.1
 have hW1 := hW.1
 have hW2 := hW.2
 have hH1 := hH.1
 have hH2 := hH.2
 have hm0 : 0 ≤ m := by rw [← hm]; exact Int.emod_nonneg _ (by omega)
 have hmW : m < W := by rw [← hm]; exact Int.emod_lt_of_pos _ (by omega)
 have hsum : p + m = i := by rw [← hp, ← hq, ← hm]; have := Int.mul_ediv_add_emod i W; rw [Int.mul_comm]; omega
 have hq0 : 0 ≤ q := by rw [← hq]; exact Int.ediv_nonneg hi0 (by omega)
 have hqH : q < H := by rw [← hq]; exact Int.ediv_lt_of_lt_mul (by omega) hi.2
 have hp0 : 0 ≤ p := by rw [← hp]; exact Int.mul_nonneg hq0 (by omega)
 have hpn : p + W ≤ n := by
  have h1 : (q + 1) * W ≤ H * W := Int.mul_le_mul_of_nonneg_right (by omega) (by omega)
  rw [Int.add_mul, Int.one_mul] at h1
  omega
 have hn256 : n ≤ 256 := by
  have h1 : H * W ≤ 16 * 16 := Int.mul_le_mul hH2 hW2 (by omega) (by omega)
  omega
 have hp2v : p2 = p + (-1) * W := by rw [← hp2, Int.add_mul, hp]
 have hin : 0 ≤ q + -1 → 0 ≤ p2 ∧ p2 + W ≤ n := by
  intro hc
  have h1 : (q + -1 + 1) * W ≤ H * W := Int.mul_le_mul_of_nonneg_right (by omega) (by omega)
  have h0 : 0 * W ≤ (q + (-1)) * W := Int.mul_le_mul_of_nonneg_right (by omega) (by omega)
  rw [Int.add_mul, Int.one_mul] at h1
  rw [Int.zero_mul, hp2] at h0
  rw [hp2] at h1
  omega
 have hdq : wrap64 (i.tdiv W) = q := by
  rw [Int.tdiv_eq_ediv_of_nonneg hi0, hq]
  unfold wrap64
  omega
 have hqq : wrap64 q = q := by unfold wrap64; omega
 have hqw : wrap64 ((q + (-1)) * W) = p2 := by rw [hp2]; unfold wrap64; omega
 rw [hn] at hl hi
 by_cases hc : 0 ≤ q + -1
 ·have hin := hin hc
  obtain ⟨ad2, rfl, hx2⟩ := Kd.at_bool h2 (p2 + m) (by omega) (by omega)
  obtain ⟨ad3, rfl, hx3⟩ := Kd.at_bool h4 (p2 + m) (by omega) (by omega)
  have hres : gstep H W l2 l3 l4 i 3 = if rdOf false l2 (p2 + m) then (0, false) else if rdOf false l4 (p2 + m) then (0, false) else ((p2 + m), true) := by
   unfold gstep gat rdOf
   simp only [show (gby 3).1 = (-1) from rfl, show (gby 3).2 = 0 from rfl, hq, hm, Int.add_zero]
   rw [hp2]
   rw [if_neg (by omega), Int.min_eq_right (by omega)]
   simp
  have hmn : (p2 + m) < i := by omega
  have hil : (p2 + m) < (l4.length : Int) := by omega
  have hjl : (p2 + m) < (l2.length : Int) := by omega
  have hj0 : 0 ≤ (p2 + m) := by omega
  clear hl hi hn hsum hH hW hp2v
  cases hb2 : rdOf false l2 (p2 + m) <;> cases hb3 : rdOf false l4 (p2 + m) <;> rw [hb2] at hx2 <;> rw [hb3] at hx3 <;> rw [hb2, hb3] at hres <;> simp only [if_true, if_false, Bool.false_eq_true] at hres
  all_goals
   replace hres := Lib.hid hres
   have hway := way3
   go_enter Tryz.func105, Tryz.ntmps105
   go_wp2_with (go_at_call 125; refine (grid_ways.calls _).mono ?_; rintro e w1 ⟨rfl, hb1⟩)
   generalize hW2 : w1.alloc (.cells #[.int .i64 (-1), .int .i64 0] 188) = W2
   have hB2 : Below w.heap.size w W2 := by rw [← hW2]; exact (((Below.refl _ w).alloc (Nat.le_refl _) _).trans (hb1.mono (by simp))).alloc (by have := hb1.size; simp at this; omega) _
   have hbx0 : W2.cell? ⟨w.heap.size, 0, none⟩ = some (.int .i64 H) := by rw [← hW2]; exact cell_old1 (cell_below1 hb1 (by simp)) _
   have hbx1 : W2.cell? ⟨w.heap.size, 1, none⟩ = some (.int .i64 W) := by rw [← hW2]; exact cell_old1 (cell_below1 hb1 (by simp)) _
   have hbx2 : W2.cell? ⟨w.heap.size, 2, none⟩ = some (.slice (some ad2) l2.length c2) := by rw [← hW2]; exact cell_old1 (cell_below1 hb1 (by simp)) _
   have hbx3 : W2.cell? ⟨w.heap.size, 3, none⟩ = some (.slice A3 l3.length c3) := by rw [← hW2]; exact cell_old1 (cell_below1 hb1 (by simp)) _
   have hbx4 : W2.cell? ⟨w.heap.size, 4, none⟩ = some (.slice (some ad3) l4.length c4) := by rw [← hW2]; exact cell_old1 (cell_below1 hb1 (by simp)) _
   have hby0 : W2.cell? ⟨w1.heap.size, 0, none⟩ = some (.int .i64 (-1)) := by rw [← hW2]; simp
   have hby1 : W2.cell? ⟨w1.heap.size, 1, none⟩ = some (.int .i64 0) := by rw [← hW2]; simp
   replace hx2 := cell_below1 hB2 hx2
   replace hx3 := cell_below1 hB2 hx3
   clear hW2
   go_quiet (fail)
   go_wp2
  all_goals go_ret2
  all_goals rw [hres.out]
  all_goals exact ⟨rfl, pw_below_drewN hB2 _⟩
 ·have hres : gstep H W l2 l3 l4 i 3 = (0, false) := by
   unfold gstep
   simp only [show (gby 3).1 = (-1) from rfl, show (gby 3).2 = 0 from rfl, hq, hm, Int.add_zero]
   rw [if_pos (by omega)]
  replace hres := Lib.hid hres
  have hway := way3
  clear hl hi hn hsum hH hW hp2v hin
  go_enter Tryz.func105, Tryz.ntmps105
  go_wp2_with (go_at_call 125; refine (grid_ways.calls _).mono ?_; rintro e w1 ⟨rfl, hb1⟩)
  generalize hW2 : w1.alloc (.cells #[.int .i64 (-1), .int .i64 0] 188) = W2
  have hB2 : Below w.heap.size w W2 := by rw [← hW2]; exact (((Below.refl _ w).alloc (Nat.le_refl _) _).trans (hb1.mono (by simp))).alloc (by have := hb1.size; simp at this; omega) _
  have hbx0 : W2.cell? ⟨w.heap.size, 0, none⟩ = some (.int .i64 H) := by rw [← hW2]; exact cell_old1 (cell_below1 hb1 (by simp)) _
  have hbx1 : W2.cell? ⟨w.heap.size, 1, none⟩ = some (.int .i64 W) := by rw [← hW2]; exact cell_old1 (cell_below1 hb1 (by simp)) _
  have hby0 : W2.cell? ⟨w1.heap.size, 0, none⟩ = some (.int .i64 (-1)) := by rw [← hW2]; simp
  have hby1 : W2.cell? ⟨w1.heap.size, 1, none⟩ = some (.int .i64 0) := by rw [← hW2]; simp
  clear hW2
  go_quiet (fail)
  go_wp2
  all_goals go_ret2
  all_goals rw [hres.out]
  all_goals exact ⟨rfl, pw_below_drewN hB2 _⟩
theorem grid_step.calls (a0_0 : Int) (a0_1 : Int) (A0_2 : Option Addr) (c0_2 : Nat) (l0_2 : List Bool) (A0_3 : Option Addr) (c0_3 : Nat) (l0_3 : List Bool) (A0_4 : Option Addr) (c0_4 : Nat) (l0_4 : List Bool) (a1 : Int) (a2 : Int) (r1 : Int) (r2 : Bool) (w : World) (hr0_2 : Kd.C Kd.bool w A0_2 l0_2.length l0_2) (hc0_2 : l0_2.length ≤ c0_2) (hr0_3 : Kd.C Kd.bool w A0_3 l0_3.length l0_3) (hc0_3 : l0_3.length ≤ c0_3) (hr0_4 : Kd.C Kd.bool w A0_4 l0_4.length l0_4) (hc0_4 : l0_4.length ≤ c0_4) (h : grid_step.f a0_0 a0_1 l0_2 l0_3 l0_4 a1 a2 = some (r1, r2)) :
  Calls Tryz.prog 105 #[.agg #[.int .i64 a0_0, .int .i64 a0_1, .slice A0_2 l0_2.length c0_2, .slice A0_3 l0_3.length c0_3, .slice A0_4 l0_4.length c0_4], .int .i64 a1, .int .i64 a2] w fun e w' => e = .returned (.tuple #[.int .i64 r1, .bool r2]) ∧ Below w.heap.size w w' := by
 obtain ⟨⟨hH, hW, hl, hi, hw⟩, he⟩ := guard_some h
 clear h
 have h4 : a2 = 0 ∨ a2 = 1 ∨ a2 = 2 ∨ a2 = 3 := by omega
 have hf : ∀ e w', StepPost (gstep a0_0 a0_1 l0_2 l0_3 l0_4 a1 a2) w e w' → e = .returned (.tuple #[.int .i64 r1, .bool r2]) ∧ Below w.heap.size w w' := by
  rintro e w' ⟨rfl, hb⟩
  rw [he]
  exact ⟨rfl, hb⟩
 rcases h4 with rfl | rfl | rfl | rfl
 ·exact (grid_step0 _ _ _ _ _ _ _ _ _ _ _ _ _ hr0_2 hr0_3 hr0_4 hH hW hl hi).mono hf
 ·exact (grid_step1 _ _ _ _ _ _ _ _ _ _ _ _ _ hr0_2 hr0_3 hr0_4 hH hW hl hi).mono hf
 ·exact (grid_step2 _ _ _ _ _ _ _ _ _ _ _ _ _ hr0_2 hr0_3 hr0_4 hH hW hl hi).mono hf
 ·exact (grid_step3 _ _ _ _ _ _ _ _ _ _ _ _ _ hr0_2 hr0_3 hr0_4 hH hW hl hi).mono hf
end Go.Proofs.YtjopbfidjapmbaaGreatDoor.Q
end
section
namespace Go.Proofs.YtjopbfidjapmbaaGreatDoor.Q
open Go.RowKit Go.Proofs.YtjopbfidjapmbaaGreatDoorW.PrintWords Go.Proofs.YtjopbfidjapmbaaGreatDoorW.PrintLast Go.Proofs.YtjopbfidjapmbaaGreatDoorW.PrintMore
attribute [local go_sem] max2_int min2_int max_two min_two max_three min_three max_four min_four
set_option linter.unusedVariables false
set_option linter.unusedSimpArgs false
def grid_Step.f (k : Nat) (a0_0 : Int) (a0_1 : Int) (l0_2 : List Bool) (l0_3 : List Bool) (l0_4 : List Bool) (a1 : Int) (a2 : Int) : Option (Int × Bool) := if a2 < 0 then (some (0, false)) else (if a2 > 3 then (some (0, false)) else ((grid_Open.f k a0_0 a0_1 l0_2 l0_3 l0_4 a1).bind fun t135 => (if t135 = true then ((grid_step.f a0_0 a0_1 l0_2 l0_3 l0_4 a1 a2).bind fun bt136 => (some (bt136.1, bt136.2))) else (some (0, false)))))
set_option maxHeartbeats 8000000 in
set_option maxRecDepth 100000 in
theorem grid_Step.calls (k : Nat) (a0_0 : Int) (a0_1 : Int) (A0_2 : Option Addr) (c0_2 : Nat) (l0_2 : List Bool) (A0_3 : Option Addr) (c0_3 : Nat) (l0_3 : List Bool) (A0_4 : Option Addr) (c0_4 : Nat) (l0_4 : List Bool) (a1 : Int) (a2 : Int) (r1 : Int) (r2 : Bool) (w : World) (hr0_2 : Kd.C Kd.bool w A0_2 l0_2.length l0_2) (hc0_2 : l0_2.length ≤ c0_2) (hr0_3 : Kd.C Kd.bool w A0_3 l0_3.length l0_3) (hc0_3 : l0_3.length ≤ c0_3) (hr0_4 : Kd.C Kd.bool w A0_4 l0_4.length l0_4) (hc0_4 : l0_4.length ≤ c0_4) (h : grid_Step.f k a0_0 a0_1 l0_2 l0_3 l0_4 a1 a2 = some (r1, r2)) :
  Calls Tryz.prog 85 #[.agg #[.int .i64 a0_0, .int .i64 a0_1, .slice A0_2 l0_2.length c0_2, .slice A0_3 l0_3.length c0_3, .slice A0_4 l0_4.length c0_4], .int .i64 a1, .int .i64 a2] w fun e w' => e = .returned (.tuple #[.int .i64 r1, .bool r2]) ∧ Below w.heap.size w w' := by
 have hu39 := Tryz.underlying39
 have HR0_2 := Aside0.mk hr0_2
 have HC0_2 := Aside0.mk hc0_2
 clear hr0_2 hc0_2
 have HR0_3 := Aside0.mk hr0_3
 have HC0_3 := Aside0.mk hc0_3
 clear hr0_3 hc0_3
 have HR0_4 := Aside0.mk hr0_4
 have HC0_4 := Aside0.mk hc0_4
 clear hr0_4 hc0_4
 have HB := Aside0.mk (Below.refl w.heap.size w)
 have H : (if a2 < 0 then (some (0, false)) else (if a2 > 3 then (some (0, false)) else ((grid_Open.f k a0_0 a0_1 l0_2 l0_3 l0_4 a1).bind fun t135 => (if t135 = true then ((grid_step.f a0_0 a0_1 l0_2 l0_3 l0_4 a1 a2).bind fun bt136 => (some (bt136.1, bt136.2))) else (some (0, false)))))) = some (r1, r2) := h
 clear h
 by_cases c4 : a2 < 0
 ·rw [if_pos c4] at H
  have c4b0 : decide (a2 < 0) = true := decide_eq_true c4
  clear c4
  simp only [Option.some.injEq, Prod.mk.injEq] at H
  obtain ⟨rfl, rfl⟩ := H
  go_enter Tryz.func85, Tryz.ntmps85
  go_wp2_with (first | ((with_reducible refine gate_dst (N := 3) rfl ?_); refine box_event ?hg (N := 3) ?hd (cs := #[.int .i64 a0_0, .int .i64 a0_1, .slice A0_2 l0_2.length c0_2, .slice A0_3 l0_3.length c0_3, .slice A0_4 l0_4.length c0_4]) (t := 39) ?hr ?_; (case hd => rfl); (case hg => rfl); (case hr => first | (go_simp; done) | (go_simp; rfl)); intro gb134 hg w5 hbox hb; have n0_ := Aside0.mk (below_step (by repeat (first | (with_reducible first | exact HB.out | apply below_alloc | apply pw_below_drewN | apply below_drew1) | exact HB.out)) hb); have n1_ := Aside0.mk (hbox); have n2_ := Aside0.mk ((by rw [hg]; exact (below_size (by repeat (first | (with_reducible first | exact HB.out | apply below_alloc | apply pw_below_drewN | apply below_drew1) | exact HB.out))) : w.heap.size ≤ gb134)); have n3_ := Aside0.mk ((by rw [hg]; exact (below_size (by repeat (first | (with_reducible first | exact HB.out | apply below_alloc | apply pw_below_drewN | apply below_drew1) | exact HB.out))) : w.heap.size ≤ gb134)); clear HB; have HB := n0_; have BK134 := n1_; have GW134 := n2_; have GE134 := n3_; clear n0_ n1_ n2_ n3_; clear hb hbox hg))
  go_ret2
  exact ⟨by first | rfl | (simp [errW_none, errW_some] <;> rfl) | (simp [*, errW_none, errW_some] <;> rfl) | (exfalso; contradiction), by repeat (first | (with_reducible first | exact HB.out | apply below_alloc | apply pw_below_drewN | apply below_drew1 | refine below_set ?_ GE134.out) | exact HB.out)⟩
 ·rw [if_neg c4] at H
  have c4b0 : decide (a2 < 0) = false := decide_eq_false c4
  clear c4
  by_cases c6 : a2 > 3
  ·rw [if_pos c6] at H
   have c6b0 : decide (3 < a2) = true := decide_eq_true c6
   clear c6
   simp only [Option.some.injEq, Prod.mk.injEq] at H
   obtain ⟨rfl, rfl⟩ := H
   go_enter Tryz.func85, Tryz.ntmps85
   go_wp2_with (first | ((with_reducible refine gate_dst (N := 3) rfl ?_); refine box_event ?hg (N := 3) ?hd (cs := #[.int .i64 a0_0, .int .i64 a0_1, .slice A0_2 l0_2.length c0_2, .slice A0_3 l0_3.length c0_3, .slice A0_4 l0_4.length c0_4]) (t := 39) ?hr ?_; (case hd => rfl); (case hg => rfl); (case hr => first | (go_simp; done) | (go_simp; rfl)); intro gb134 hg w7 hbox hb; have n0_ := Aside0.mk (below_step (by repeat (first | (with_reducible first | exact HB.out | apply below_alloc | apply pw_below_drewN | apply below_drew1) | exact HB.out)) hb); have n1_ := Aside0.mk (hbox); have n2_ := Aside0.mk ((by rw [hg]; exact (below_size (by repeat (first | (with_reducible first | exact HB.out | apply below_alloc | apply pw_below_drewN | apply below_drew1) | exact HB.out))) : w.heap.size ≤ gb134)); have n3_ := Aside0.mk ((by rw [hg]; exact (below_size (by repeat (first | (with_reducible first | exact HB.out | apply below_alloc | apply pw_below_drewN | apply below_drew1) | exact HB.out))) : w.heap.size ≤ gb134)); clear HB; have HB := n0_; have BK134 := n1_; have GW134 := n2_; have GE134 := n3_; clear n0_ n1_ n2_ n3_; clear hb hbox hg))
   go_ret2
   exact ⟨by first | rfl | (simp [errW_none, errW_some] <;> rfl) | (simp [*, errW_none, errW_some] <;> rfl) | (exfalso; contradiction), by repeat (first | (with_reducible first | exact HB.out | apply below_alloc | apply pw_below_drewN | apply below_drew1 | refine below_set ?_ GE134.out) | exact HB.out)⟩
  ·rw [if_neg c6] at H
   have c6b0 : decide (3 < a2) = false := decide_eq_false c6
   clear c6
   replace H := Option.bind_eq_some_iff.mp H
   obtain ⟨t135, A80, H⟩ := H
   replace H : (if t135 = true then ((grid_step.f a0_0 a0_1 l0_2 l0_3 l0_4 a1 a2).bind fun bt136 => (some (bt136.1, bt136.2))) else (some (0, false))) = some (r1, r2) := H
   have A8 := Aside0.mk A80
   clear A80
   by_cases c9 : t135 = true
   ·subst c9
    have H1 : ((grid_step.f a0_0 a0_1 l0_2 l0_3 l0_4 a1 a2).bind fun bt136 => (some (bt136.1, bt136.2))) = some (r1, r2) := by rw [if_pos rfl] at H; exact H
    clear H
    have H := H1
    clear H1
    replace H := Option.bind_eq_some_iff.mp H
    obtain ⟨⟨t136, t137⟩, A100, H⟩ := H
    replace H : (some (t136, t137)) = some (r1, r2) := H
    have A10 := Aside0.mk A100
    clear A100
    simp only [Option.some.injEq, Prod.mk.injEq] at H
    obtain ⟨rfl, rfl⟩ := H
    go_enter Tryz.func85, Tryz.ntmps85
    go_wp2_with (first | ((with_reducible refine gate_dst (N := 3) rfl ?_); refine box_event ?hg (N := 3) ?hd (cs := #[.int .i64 a0_0, .int .i64 a0_1, .slice A0_2 l0_2.length c0_2, .slice A0_3 l0_3.length c0_3, .slice A0_4 l0_4.length c0_4]) (t := 39) ?hr ?_; (case hd => rfl); (case hg => rfl); (case hr => first | (go_simp; done) | (go_simp; rfl)); intro gb134 hg w11 hbox hb; have n0_ := Aside0.mk (below_step (by repeat (first | (with_reducible first | exact HB.out | apply below_alloc | apply pw_below_drewN | apply below_drew1) | exact HB.out)) hb); have n1_ := Aside0.mk (hbox); have n2_ := Aside0.mk ((by rw [hg]; exact (below_size (by repeat (first | (with_reducible first | exact HB.out | apply below_alloc | apply pw_below_drewN | apply below_drew1) | exact HB.out))) : w.heap.size ≤ gb134)); have n3_ := Aside0.mk ((by rw [hg]; exact (below_size (by repeat (first | (with_reducible first | exact HB.out | apply below_alloc | apply pw_below_drewN | apply below_drew1) | exact HB.out))) : w.heap.size ≤ gb134)); clear HB; have HB := n0_; have BK134 := n1_; have GW134 := n2_; have GE134 := n3_; clear n0_ n1_ n2_ n3_; clear hb hbox hg; have hcz12_0 : w11.cell? ⟨gb134, 0, none⟩ = some (.int .i64 a0_0) := (blk_cell BK134.out 0).trans rfl; have hcz12_1 : w11.cell? ⟨gb134, 1, none⟩ = some (.int .i64 a0_1) := (blk_cell BK134.out 1).trans rfl; have hcz12_2 : w11.cell? ⟨gb134, 2, none⟩ = some (.slice A0_2 l0_2.length c0_2) := (blk_cell BK134.out 2).trans rfl; have hcz12_3 : w11.cell? ⟨gb134, 3, none⟩ = some (.slice A0_3 l0_3.length c0_3) := (blk_cell BK134.out 3).trans rfl; have hcz12_4 : w11.cell? ⟨gb134, 4, none⟩ = some (.slice A0_4 l0_4.length c0_4) := (blk_cell BK134.out 4).trans rfl; have hfz12_0 := blk_frozen BK134.out 0; have hfz12_1 := blk_frozen BK134.out 1; have hfz12_2 := blk_frozen BK134.out 2; have hfz12_3 := blk_frozen BK134.out 3; have hfz12_4 := blk_frozen BK134.out 4) | (go_at_call 69; (with_reducible refine (grid_Open.calls k a0_0 a0_1 _ _ l0_2 _ _ l0_3 _ _ l0_4 a1 true _ ?side1 ?side2 ?side3 ?side4 ?side5 ?side6 A8.out).mono ?_); (case side1 => repeat (first | exact (Kd.C_below HR0_2.out HB.out) | (with_reducible refine Kd.C_alloc ?_ _) | (with_reducible refine Kd.C_drewN ?_ _) | (with_reducible refine Kd.C_drew ?_))); (case side2 => exact HC0_2.out); (case side3 => repeat (first | exact (Kd.C_below HR0_3.out HB.out) | (with_reducible refine Kd.C_alloc ?_ _) | (with_reducible refine Kd.C_drewN ?_ _) | (with_reducible refine Kd.C_drew ?_))); (case side4 => exact HC0_3.out); (case side5 => repeat (first | exact (Kd.C_below HR0_4.out HB.out) | (with_reducible refine Kd.C_alloc ?_ _) | (with_reducible refine Kd.C_drewN ?_ _) | (with_reducible refine Kd.C_drew ?_))); (case side6 => exact HC0_4.out); rintro e w13 ⟨rfl, hb⟩; have n0_ := Aside0.mk (blk_below (g := gb134) (o := .cells #[.int .i64 a0_0, .int .i64 a0_1, .slice A0_2 l0_2.length c0_2, .slice A0_3 l0_3.length c0_3, .slice A0_4 l0_4.length c0_4] 39 (0, 0)) (by (with_reducible repeat (first | refine blk_drewN ?_ _ | refine blk_drew ?_ | refine blk_alloc ?_ _)); exact BK134.out) hb); have n1_ := Aside0.mk (below_step (by repeat (first | (with_reducible first | exact HB.out | apply below_alloc | apply pw_below_drewN | apply below_drew1 | refine below_set ?_ GE134.out) | exact HB.out)) hb); clear BK134; clear HB; have BK134 := n0_; have HB := n1_; clear n0_ n1_; (try clear hb); (try clear hb2); (try clear hk); (try clear hi); have hcz14_0 : w13.cell? ⟨gb134, 0, none⟩ = some (.int .i64 a0_0) := (blk_cell BK134.out 0).trans rfl; have hcz14_1 : w13.cell? ⟨gb134, 1, none⟩ = some (.int .i64 a0_1) := (blk_cell BK134.out 1).trans rfl; have hcz14_2 : w13.cell? ⟨gb134, 2, none⟩ = some (.slice A0_2 l0_2.length c0_2) := (blk_cell BK134.out 2).trans rfl; have hcz14_3 : w13.cell? ⟨gb134, 3, none⟩ = some (.slice A0_3 l0_3.length c0_3) := (blk_cell BK134.out 3).trans rfl; have hcz14_4 : w13.cell? ⟨gb134, 4, none⟩ = some (.slice A0_4 l0_4.length c0_4) := (blk_cell BK134.out 4).trans rfl; have hfz14_0 := blk_frozen BK134.out 0; have hfz14_1 := blk_frozen BK134.out 1; have hfz14_2 := blk_frozen BK134.out 2; have hfz14_3 := blk_frozen BK134.out 3; have hfz14_4 := blk_frozen BK134.out 4) | ((with_reducible refine gate_callee (f := 105) rfl ?_); refine goesL_ (some 23) rfl rfl Tryz.func105 (by kernel_rfl) rfl #[.agg #[.int .i64 a0_0, .int .i64 a0_1, .slice A0_2 l0_2.length c0_2, .slice A0_3 l0_3.length c0_3, .slice A0_4 l0_4.length c0_4], .int .i64 a1, .int .i64 a2] rfl (by (try simp only [List.map_toArray, List.map_cons, List.map_nil]); first | done | rfl | (simp only [List.length_drop, List.length_take]; rfl)) ?_; (with_reducible refine (grid_step.calls a0_0 a0_1 _ _ l0_2 _ _ l0_3 _ _ l0_4 a1 a2 t136 t137 _ ?side1 ?side2 ?side3 ?side4 ?side5 ?side6 A10.out).mono ?_); (case side1 => repeat (first | exact (Kd.C_below HR0_2.out HB.out) | (with_reducible refine Kd.C_alloc ?_ _) | (with_reducible refine Kd.C_drewN ?_ _) | (with_reducible refine Kd.C_drew ?_))); (case side2 => exact HC0_2.out); (case side3 => repeat (first | exact (Kd.C_below HR0_3.out HB.out) | (with_reducible refine Kd.C_alloc ?_ _) | (with_reducible refine Kd.C_drewN ?_ _) | (with_reducible refine Kd.C_drew ?_))); (case side4 => exact HC0_3.out); (case side5 => repeat (first | exact (Kd.C_below HR0_4.out HB.out) | (with_reducible refine Kd.C_alloc ?_ _) | (with_reducible refine Kd.C_drewN ?_ _) | (with_reducible refine Kd.C_drew ?_))); (case side6 => exact HC0_4.out); rintro e w15 ⟨rfl, hb⟩; refine ⟨_, rfl, ?_⟩; have n0_ := Aside0.mk (blk_below (g := gb134) (o := .cells #[.int .i64 a0_0, .int .i64 a0_1, .slice A0_2 l0_2.length c0_2, .slice A0_3 l0_3.length c0_3, .slice A0_4 l0_4.length c0_4] 39 (0, 0)) (by (with_reducible repeat (first | refine blk_drewN ?_ _ | refine blk_drew ?_ | refine blk_alloc ?_ _)); exact BK134.out) hb); have n1_ := Aside0.mk (below_step (by repeat (first | (with_reducible first | exact HB.out | apply below_alloc | apply pw_below_drewN | apply below_drew1 | refine below_set ?_ GE134.out) | exact HB.out)) hb); clear BK134; clear HB; have BK134 := n0_; have HB := n1_; clear n0_ n1_; (try clear hb); (try clear hb2); (try clear hk); (try clear hi)))
    go_ret2
    exact ⟨by first | rfl | (simp [errW_none, errW_some] <;> rfl) | (simp [*, errW_none, errW_some] <;> rfl) | (exfalso; contradiction), by repeat (first | (with_reducible first | exact HB.out | apply below_alloc | apply pw_below_drewN | apply below_drew1 | refine below_set ?_ GE134.out) | exact HB.out)⟩
   ·replace c9 := Bool.eq_false_iff.mpr c9
    subst c9
    have H1 : (some (0, false)) = some (r1, r2) := by rw [if_neg (show ¬ (false = true) by decide)] at H; exact H
    clear H
    have H := H1
    clear H1
    simp only [Option.some.injEq, Prod.mk.injEq] at H
    obtain ⟨rfl, rfl⟩ := H
    go_enter Tryz.func85, Tryz.ntmps85
    go_wp2_with (first | ((with_reducible refine gate_dst (N := 3) rfl ?_); refine box_event ?hg (N := 3) ?hd (cs := #[.int .i64 a0_0, .int .i64 a0_1, .slice A0_2 l0_2.length c0_2, .slice A0_3 l0_3.length c0_3, .slice A0_4 l0_4.length c0_4]) (t := 39) ?hr ?_; (case hd => rfl); (case hg => rfl); (case hr => first | (go_simp; done) | (go_simp; rfl)); intro gb134 hg w16 hbox hb; have n0_ := Aside0.mk (below_step (by repeat (first | (with_reducible first | exact HB.out | apply below_alloc | apply pw_below_drewN | apply below_drew1) | exact HB.out)) hb); have n1_ := Aside0.mk (hbox); have n2_ := Aside0.mk ((by rw [hg]; exact (below_size (by repeat (first | (with_reducible first | exact HB.out | apply below_alloc | apply pw_below_drewN | apply below_drew1) | exact HB.out))) : w.heap.size ≤ gb134)); have n3_ := Aside0.mk ((by rw [hg]; exact (below_size (by repeat (first | (with_reducible first | exact HB.out | apply below_alloc | apply pw_below_drewN | apply below_drew1) | exact HB.out))) : w.heap.size ≤ gb134)); clear HB; have HB := n0_; have BK134 := n1_; have GW134 := n2_; have GE134 := n3_; clear n0_ n1_ n2_ n3_; clear hb hbox hg; have hcz17_0 : w16.cell? ⟨gb134, 0, none⟩ = some (.int .i64 a0_0) := (blk_cell BK134.out 0).trans rfl; have hcz17_1 : w16.cell? ⟨gb134, 1, none⟩ = some (.int .i64 a0_1) := (blk_cell BK134.out 1).trans rfl; have hcz17_2 : w16.cell? ⟨gb134, 2, none⟩ = some (.slice A0_2 l0_2.length c0_2) := (blk_cell BK134.out 2).trans rfl; have hcz17_3 : w16.cell? ⟨gb134, 3, none⟩ = some (.slice A0_3 l0_3.length c0_3) := (blk_cell BK134.out 3).trans rfl; have hcz17_4 : w16.cell? ⟨gb134, 4, none⟩ = some (.slice A0_4 l0_4.length c0_4) := (blk_cell BK134.out 4).trans rfl; have hfz17_0 := blk_frozen BK134.out 0; have hfz17_1 := blk_frozen BK134.out 1; have hfz17_2 := blk_frozen BK134.out 2; have hfz17_3 := blk_frozen BK134.out 3; have hfz17_4 := blk_frozen BK134.out 4) | (go_at_call 69; (with_reducible refine (grid_Open.calls k a0_0 a0_1 _ _ l0_2 _ _ l0_3 _ _ l0_4 a1 false _ ?side1 ?side2 ?side3 ?side4 ?side5 ?side6 A8.out).mono ?_); (case side1 => repeat (first | exact (Kd.C_below HR0_2.out HB.out) | (with_reducible refine Kd.C_alloc ?_ _) | (with_reducible refine Kd.C_drewN ?_ _) | (with_reducible refine Kd.C_drew ?_))); (case side2 => exact HC0_2.out); (case side3 => repeat (first | exact (Kd.C_below HR0_3.out HB.out) | (with_reducible refine Kd.C_alloc ?_ _) | (with_reducible refine Kd.C_drewN ?_ _) | (with_reducible refine Kd.C_drew ?_))); (case side4 => exact HC0_3.out); (case side5 => repeat (first | exact (Kd.C_below HR0_4.out HB.out) | (with_reducible refine Kd.C_alloc ?_ _) | (with_reducible refine Kd.C_drewN ?_ _) | (with_reducible refine Kd.C_drew ?_))); (case side6 => exact HC0_4.out); rintro e w18 ⟨rfl, hb⟩; have n0_ := Aside0.mk (blk_below (g := gb134) (o := .cells #[.int .i64 a0_0, .int .i64 a0_1, .slice A0_2 l0_2.length c0_2, .slice A0_3 l0_3.length c0_3, .slice A0_4 l0_4.length c0_4] 39 (0, 0)) (by (with_reducible repeat (first | refine blk_drewN ?_ _ | refine blk_drew ?_ | refine blk_alloc ?_ _)); exact BK134.out) hb); have n1_ := Aside0.mk (below_step (by repeat (first | (with_reducible first | exact HB.out | apply below_alloc | apply pw_below_drewN | apply below_drew1 | refine below_set ?_ GE134.out) | exact HB.out)) hb); clear BK134; clear HB; have BK134 := n0_; have HB := n1_; clear n0_ n1_; (try clear hb); (try clear hb2); (try clear hk); (try clear hi)))
    go_ret2
    exact ⟨by first | rfl | (simp [errW_none, errW_some] <;> rfl) | (simp [*, errW_none, errW_some] <;> rfl) | (exfalso; contradiction), by repeat (first | (with_reducible first | exact HB.out | apply below_alloc | apply pw_below_drewN | apply below_drew1 | refine below_set ?_ GE134.out) | exact HB.out)⟩
end Go.Proofs.YtjopbfidjapmbaaGreatDoor.Q
end
section
namespace Go.Proofs.YtjopbfidjapmbaaGreatDoor.Q
open Go.RowKit Go.Proofs.YtjopbfidjapmbaaGreatDoorW.PrintWords Go.Proofs.YtjopbfidjapmbaaGreatDoorW.PrintLast Go.Proofs.YtjopbfidjapmbaaGreatDoorW.PrintMore
attribute [local go_sem] max2_int min2_int max_two min_two max_three min_three max_four min_four
set_option linter.unusedVariables false
set_option linter.unusedSimpArgs false
open Go.Proofs.YtjopbfidjapmbaaGreatDoorS
theorem w64 {x : Int} (h0 : -9223372036854775808 ≤ x) (h1 : x ≤ 9223372036854775807) : wrap64 x = x := by unfold wrap64; omega
theorem cell_facts {H W i : Int} (hW : 1 ≤ W) (h0 : 0 ≤ i) (h1 : i < H * W) : 0 ≤ i / W ∧ i / W < H ∧ 0 ≤ i % W ∧ i % W < W ∧ (i % W ≠ W - 1 → i + 1 < H * W) ∧ (i / W ≠ H - 1 → i + W < H * W) := by
 have hm0 : 0 ≤ i % W := Int.emod_nonneg _ (by omega)
 have hmW : i % W < W := Int.emod_lt_of_pos _ (by omega)
 have hq0 : 0 ≤ i / W := Int.ediv_nonneg h0 (by omega)
 have hqH : i / W < H := Int.ediv_lt_of_lt_mul (by omega) h1
 have hsum := Int.mul_ediv_add_emod i W
 rw [Int.mul_comm] at hsum
 have e1 : (i / W + 1) * W ≤ H * W := Int.mul_le_mul_of_nonneg_right (by omega) (by omega)
 rw [Int.add_mul, Int.one_mul] at e1
 refine ⟨hq0, hqH, hm0, hmW, fun h => by omega, fun h => ?_⟩
 have e2 : (i / W + 2) * W ≤ H * W := Int.mul_le_mul_of_nonneg_right (by omega) (by omega)
 rw [Int.add_mul] at e2
 omega
theorem mul_small {H W : Int} (hH : 1 ≤ H ∧ H ≤ 16) (hW : 1 ≤ W ∧ W ≤ 16) : 1 ≤ H * W ∧ H * W ≤ 256 := by
 have h1 : H * W ≤ 16 * 16 := Int.mul_le_mul hH.2 hW.2 (by omega) (by omega)
 have h2 : 1 * 1 ≤ H * W := Int.mul_le_mul hH.1 hW.1 (by omega) (by omega)
 omega
theorem small_sums {i W : Int} (h0 : 0 ≤ i) (h1 : i < 256) (h2 : 1 ≤ W) (h3 : W ≤ 16) : wrap64 (i + 1) = i + 1 ∧ wrap64 (i + W) = i + W ∧ 0 ≤ i + W :=
 ⟨w64 (by omega) (by omega), w64 (by omega) (by omega), by omega⟩
theorem small_less {q H W : Int} (h2 : 1 ≤ W) (h3 : W ≤ 16) (h4 : 1 ≤ H) (h5 : H ≤ 16) (h6 : 0 ≤ q) (h7 : q < H) : wrap64 (W - 1) = W - 1 ∧ wrap64 (H - 1) = H - 1 ∧ wrap64 q = q :=
 ⟨w64 (by omega) (by omega), w64 (by omega) (by omega), w64 (by omega) (by omega)⟩
set_option maxHeartbeats 4000000 in
theorem grid_Check_l0 (H W : Int) (bl ri be : List Bool) (hH : 1 ≤ H ∧ H ≤ 16) (hW : 1 ≤ W ∧ W ≤ 16) (hl : (bl.length : Int) = H * W ∧ (ri.length : Int) = H * W ∧ (be.length : Int) = H * W) :
  ∀ (d i k : Nat), i + d = bl.length → d < k → grid_Check.l0 k bl (bl.length : Int) (i : Int) H W bl ri be = some (if gbads H W bl ri be d i then 52 else 0) := by
 have hn := mul_small hH hW
 intro d
 induction d with
 | zero =>
  intro i k hi hk
  obtain ⟨k, rfl⟩ : ∃ m, k = m + 1 := ⟨k - 1, by omega⟩
  simp only [grid_Check.l0]
  rw [if_neg (by omega)]
  rfl
 | succ d ih =>
  intro i k hi hk
  obtain ⟨k, rfl⟩ : ∃ m, k = m + 1 := ⟨k - 1, by omega⟩
  have hih := ih (i + 1) k (by omega) (by omega)
  have h0 : (0 : Int) ≤ (i : Int) := Int.natCast_nonneg _
  have h1 : (i : Int) < (bl.length : Int) := Int.ofNat_lt.2 (by omega)
  have h2 : (i : Int) < H * W := by rw [← hl.1]; exact h1
  have h3 : (i : Int) < (ri.length : Int) := by rw [hl.2.1]; exact h2
  have h4 : (i : Int) < (be.length : Int) := by rw [hl.2.2]; exact h2
  obtain ⟨f1, f2, f3, f4, f5, f6⟩ := cell_facts (H := H) (W := W) (i := (i : Int)) hW.1 h0 h2
  have hW0 : ¬ (W = 0) := fun e => by rw [e] at hW; exact absurd hW.1 (by decide)
  have t1 : Int.tmod (i : Int) W = (i : Int) % W := Int.tmod_eq_emod_of_nonneg h0
  have t2 : Int.tdiv (i : Int) W = (i : Int) / W := Int.tdiv_eq_ediv_of_nonneg h0
  have hn2 := Int.lt_of_lt_of_le h2 hn.2
  rw [← hl.1] at f5 f6
  obtain ⟨e1, e5, g1⟩ := small_sums h0 hn2 hW.1 hW.2
  obtain ⟨e2, e3, e4⟩ := small_less hW.1 hW.2 hH.1 hH.2 f1 f2
  have g0 : (0 : Int) ≤ ((i + 1 : Nat) : Int) := Int.natCast_nonneg _
  have hg : gbads H W bl ri be (d + 1) i = (gbad H W bl ri be i || gbads H W bl ri be d (i + 1)) := rfl
  rw [hg]
  unfold gbad
  simp only [grid_Check.l0]
  rw [t1, t2, e1, e2, e3, e4, e5, show ((i : Int) + 1) = ((i + 1 : Nat) : Int) from rfl, hih]
  delta gat rdOf
  clear hih ih e1 e2 e3 e4 e5 t1 t2
  generalize gbads H W bl ri be d (i + 1) = B
  generalize bl.getD (Int.toNat (i : Int)) false = b0
  generalize bl.getD (Int.toNat ((i + 1 : Nat) : Int)) false = b1
  generalize bl.getD (Int.toNat ((i : Int) + W)) false = b2
  generalize ri.getD (Int.toNat (i : Int)) false = b3
  generalize be.getD (Int.toNat (i : Int)) false = b4
  rw [if_pos h1, if_pos h0, if_pos h1, if_neg hW0, if_pos h3, if_pos h4]
  have h4n : i < be.length := Int.ofNat_lt.1 h4
  by_cases hm1 : (i : Int) % W = W - 1
  ·by_cases hq1 : (i : Int) / W = H - 1
   ·cases b0 <;> cases b3 <;> cases b4 <;> simp [hm1, hq1, h4n]
   ·have f7 := f6 hq1
    rw [if_pos g1, if_pos f7]
    cases b0 <;> cases b2 <;> cases b3 <;> cases b4 <;> simp [hm1, hq1, h4n]
  ·have f8 : ((i + 1 : Nat) : Int) < (bl.length : Int) := f5 hm1
   rw [if_pos g0, if_pos f8]
   by_cases hq1 : (i : Int) / W = H - 1
   ·cases b0 <;> cases b1 <;> cases b3 <;> cases b4 <;> simp [hm1, hq1, h4n]
   ·have f7 := f6 hq1
    rw [if_pos g1, if_pos f7]
    cases b0 <;> cases b1 <;> cases b2 <;> cases b3 <;> cases b4 <;> simp [hm1, hq1, h4n]
theorem grid_side_eq (n : Int) : grid_side.f n = some (decide (1 ≤ n ∧ n ≤ 16)) := by
 unfold grid_side.f
 by_cases h : 1 ≤ n
 ·rw [if_pos h]; simp [h]
 ·rw [if_neg h]; simp [h]
set_option maxHeartbeats 1000000 in
theorem grid_Check_eq (H W : Int) (bl ri be : List Bool) (k : Nat) (hk : bl.length + 3 ≤ k) : grid_Check.f k H W bl ri be = some (gcheck H W bl ri be) := by
 obtain ⟨k, rfl⟩ : ∃ m, k = m + 2 := ⟨k - 2, by omega⟩
 unfold grid_Check.f gcheck
 rw [grid_side_eq, grid_side_eq]
 simp only [Option.bind_some]
 by_cases hH : 1 ≤ H ∧ H ≤ 16
 ·by_cases hW : 1 ≤ W ∧ W ≤ 16
  ·have hn := mul_small hH hW
   have hs : gsides H W = true := by simp [gsides, hH, hW]
   have hw : wrap64 (H * W) = H * W := w64 (by omega) (by omega)
   rw [hs, decide_eq_true hH, decide_eq_true hW]
   simp only [if_true, Bool.not_true, Bool.true_eq_false, if_false]
   simp only [grid_Check.j0, Bool.false_eq_true, if_false]
   rw [hw]
   by_cases hz : (bl.length : Int) = H * W ∧ (ri.length : Int) = H * W ∧ (be.length : Int) = H * W
   ·have hz1 : gsizes H W bl ri be = true := by simp [gsizes, hz]
    rw [hz1, if_pos hz.1, if_pos hz.2.1]
    simp only [Bool.true_eq_false, if_false]
    have hb : ((be.length : Int) != H * W) = false := by simp [hz.2.2]
    rw [hb]
    simp only [grid_Check.j1, Bool.false_eq_true, if_false]
    have := grid_Check_l0 H W bl ri be hH hW hz bl.length 0 k (by omega) (by omega)
    exact this
   ·have hz1 : gsizes H W bl ri be = false := by simp only [gsizes]; exact decide_eq_false hz
    rw [hz1, if_pos rfl]
    by_cases z1 : (bl.length : Int) = H * W
    ·rw [if_pos z1]
     by_cases z2 : (ri.length : Int) = H * W
     ·rw [if_pos z2]
      have hb : ((be.length : Int) != H * W) = true := by simp only [bne_iff_ne]; exact fun z3 => hz ⟨z1, z2, z3⟩
      rw [hb]
      simp [grid_Check.j1]
     ·rw [if_neg z2]; simp [grid_Check.j1]
    ·rw [if_neg z1]; simp [grid_Check.j1]
  ·have hs : gsides H W = false := by simp only [gsides, decide_eq_false hW, Bool.and_false]
   rw [hs, decide_eq_true hH, decide_eq_false hW]
   simp [grid_Check.j0]
 ·have hs : gsides H W = false := by simp only [gsides, decide_eq_false hH, Bool.false_and]
  rw [hs, decide_eq_false hH]
  simp [grid_Check.j0]
theorem gcheck_ok {H W : Int} {bl ri be : List Bool} (h : gcheck H W bl ri be = 0) : (1 ≤ H ∧ H ≤ 16) ∧ (1 ≤ W ∧ W ≤ 16) ∧ ((bl.length : Int) = H * W ∧ (ri.length : Int) = H * W ∧ (be.length : Int) = H * W) := by
 unfold gcheck at h
 split at h
 ·cases h
 ·split at h
  ·cases h
  ·rename_i h1 h2
   simp only [gsides, Bool.not_eq_false, Bool.and_eq_true, decide_eq_true_eq] at h1
   simp only [gsizes, Bool.not_eq_false, decide_eq_true_eq] at h2
   exact ⟨h1.1, h1.2, h2⟩
theorem grid_open_eq (H W : Int) (bl ri be : List Bool) (i : Int) : grid_open.f H W bl ri be i = some (gopen bl i) := by
 unfold grid_open.f gopen
 by_cases h0 : 0 ≤ i
 ·rw [if_pos h0]
  by_cases h1 : i < (bl.length : Int)
  ·rw [if_pos h1, if_pos h0]; simp [h0, h1]; rfl
  ·rw [if_neg h1]; simp [h1]
 ·rw [if_neg h0]; simp [h0]
theorem grid_Open_eq (H W : Int) (bl ri be : List Bool) (i : Int) (k : Nat) (hk : bl.length + 3 ≤ k) : grid_Open.f k H W bl ri be i = some (decide (gcheck H W bl ri be = 0) && gopen bl i) := by
 unfold grid_Open.f
 rw [grid_Check_eq _ _ _ _ _ _ hk, grid_open_eq]
 simp only [Option.bind_some]
 by_cases h : gcheck H W bl ri be = 0
 ·rw [if_pos h]; simp [h]
 ·rw [if_neg h]; simp [h]
theorem grid_Step_eq (H W : Int) (bl ri be : List Bool) (i way : Int) (k : Nat) (hk : bl.length + 3 ≤ k) (hc : gcheck H W bl ri be = 0) (hw : 0 ≤ way ∧ way ≤ 3) : grid_Step.f k H W bl ri be i way = some ((gStep H W bl ri be i way).1, (gStep H W bl ri be i way).2) := by
 obtain ⟨hH, hW, hl⟩ := gcheck_ok hc
 unfold grid_Step.f gStep
 rw [if_neg (by omega), if_neg (by omega), grid_Open_eq _ _ _ _ _ _ _ hk]
 simp only [Option.bind_some, decide_eq_true hc, Bool.true_and]
 cases ho : gopen bl i with
 | false => simp
 | true =>
  have hi : 0 ≤ i ∧ i < H * W := by
   simp only [gopen, Bool.and_eq_true, decide_eq_true_eq] at ho
   rw [← hl.1]
   exact ho.1
  simp only [if_true]
  unfold grid_step.f
  rw [if_pos ⟨hH, hW, hl, hi, hw⟩]
  rfl
structure GridIs (H W : Int) (A2 : Option Addr) (c2 : Nat) (bl : List Bool) (A3 : Option Addr) (c3 : Nat) (ri : List Bool) (A4 : Option Addr) (c4 : Nat) (be : List Bool) (w : World) : Prop where
 h2 : Kd.C Kd.bool w A2 bl.length bl
 c2 : bl.length ≤ c2
 h3 : Kd.C Kd.bool w A3 ri.length ri
 c3 : ri.length ≤ c3
 h4 : Kd.C Kd.bool w A4 be.length be
 c4 : be.length ≤ c4
 ok : gcheck H W bl ri be = 0
theorem GridIs.below {H W : Int} {A2 : Option Addr} {c2 : Nat} {bl : List Bool} {A3 : Option Addr} {c3 : Nat} {ri : List Bool} {A4 : Option Addr} {c4 : Nat} {be : List Bool} {w w' : World} (h : GridIs H W A2 c2 bl A3 c3 ri A4 c4 be w) (hb : Below w.heap.size w w') : GridIs H W A2 c2 bl A3 c3 ri A4 c4 be w' :=
 ⟨Kd.C_below h.h2 hb, h.c2, Kd.C_below h.h3 hb, h.c3, Kd.C_below h.h4 hb, h.c4, h.ok⟩
def GridBox (b : Nat) (H W : Int) (A2 : Option Addr) (c2 : Nat) (bl : List Bool) (A3 : Option Addr) (c3 : Nat) (ri : List Bool) (A4 : Option Addr) (c4 : Nat) (be : List Bool) (w : World) : Prop :=
 w.cell? ⟨b, 0, none⟩ = some (.int .i64 H) ∧ w.cell? ⟨b, 1, none⟩ = some (.int .i64 W) ∧ w.cell? ⟨b, 2, none⟩ = some (.slice A2 bl.length c2) ∧ w.cell? ⟨b, 3, none⟩ = some (.slice A3 ri.length c3) ∧ w.cell? ⟨b, 4, none⟩ = some (.slice A4 be.length c4)
theorem GridBox.below {b : Nat} {H W : Int} {A2 : Option Addr} {c2 : Nat} {bl : List Bool} {A3 : Option Addr} {c3 : Nat} {ri : List Bool} {A4 : Option Addr} {c4 : Nat} {be : List Bool} {w w' : World} (h : GridBox b H W A2 c2 bl A3 c3 ri A4 c4 be w) (hb : Below w.heap.size w w') : GridBox b H W A2 c2 bl A3 c3 ri A4 c4 be w' :=
 ⟨cell_below1 hb h.1, cell_below1 hb h.2.1, cell_below1 hb h.2.2.1, cell_below1 hb h.2.2.2.1, cell_below1 hb h.2.2.2.2⟩
theorem int_info : (Tryz.prog.info? 3).map (fun i => (i.zero, i.size, i.bytes)) = some (some (.int .i64 0), 1, 8) := by kernel_rfl
theorem gopen_lt {bl : List Bool} {i : Int} (h : gopen bl i = true) : 0 ≤ i ∧ i < bl.length := by
 simp only [gopen, Bool.and_eq_true, decide_eq_true_eq] at h
 exact h.1
theorem gStep_yes {H W : Int} {bl ri be : List Bool} {i way : Int} (hc : gcheck H W bl ri be = 0) (hw : way = 0 ∨ way = 1) (h : (gStep H W bl ri be i way).2 = true) : 0 ≤ i ∧ i < (gStep H W bl ri be i way).1 ∧ (gStep H W bl ri be i way).1 < bl.length := by
 obtain ⟨hH, hW, hl⟩ := gcheck_ok hc
 unfold gStep at h ⊢
 split at h
 ·rename_i ho
  rw [if_pos ho]
  have h1 := gopen_lt ho
  exact ⟨h1.1, gstep_up hW.1 h1.1 hw h, (gstep_to hW.1 hl.1 h).2.1⟩
 ·cases h
set_option maxHeartbeats 8000000 in
set_option maxRecDepth 1000000 in
theorem gather.calls (bx : Nat) (H W : Int) (A2 : Option Addr) (c2 : Nat) (bl : List Bool) (A3 : Option Addr) (c3 : Nat) (ri : List Bool) (A4 : Option Addr) (c4 : Nat) (be : List Bool) (i way : Int) (w : World)
  (hg : GridIs H W A2 c2 bl A3 c3 ri A4 c4 be w) (hbx : GridBox bx H W A2 c2 bl A3 c3 ri A4 c4 be w) (hw : way = 0 ∨ way = 1) (hi : 0 ≤ i ∧ i < bl.length) :
  Calls Tryz.prog 84 #[.int .i64 i, .int .i64 way, .pointer (some ⟨bx, 0, none⟩)] w fun e w' => ∃ v, e = .returned v ∧ Kd.R (Kd.int .i64) 3 w' w.heap.size (fun _ => True) v (grun H W bl ri be way bl.length i) ∧ Below w.heap.size w w' := by
 have hsm := (mul_small (gcheck_ok hg.ok).1 (gcheck_ok hg.ok).2.1)
 have hbl : bl.length ≤ 256 := by have := (gcheck_ok hg.ok).2.2.1; omega
 clear hsm
 have hw03 : 0 ≤ way ∧ way ≤ 3 := by omega
 go_enter Tryz.func84, Tryz.ntmps84
 go_wp2_with (((with_reducible refine gate_dst (N := 10) rfl ?_); refine Kd.R_lit (Kd.int .i64) _ 3 ?hg (N := 10) ?hd (xs := ([i] : List Int)) (inner := [.int .i64 i]) (ok := fun _ => True) (okp := fun _ => True) ?hr ?hp (fun _ hk => hk) trivial (Below.refl _ _) (Nat.le_refl _) (by simp) ?_; (case hd => rfl); (case hg => rfl); (case hr => first | (go_simp; done) | (go_simp; rfl)); (case hp => exact (Reps.one (show Kd.M (Kd.int .i64) _ _ _ i [.int .i64 i] from rfl) (Reps.none _ _))); intro v1 w1 ho1 hb1 hg_ hnew_; clear hg_ hnew_))
 go_loopw [0, 6] (fun t v wr => ∃ (f : Nat) (j : Int) (acc : List Int), t = .int .i64 j ∧ (acc ++ grun H W bl ri be way f j = grun H W bl ri be way bl.length i) ∧ (0 ≤ j ∧ j < bl.length ∧ (bl.length : Int) - j ≤ f ∧ acc.length ≤ j.toNat) ∧ Kd.R (Kd.int .i64) 3 wr w.heap.size (fun _ => True) v (acc ++ [j]) ∧ Below w.heap.size w wr) (fun t _ _ => bl.length - (intOf t).toNat)
 case atStart => exact ⟨bl.length, i, [], rfl, rfl, ⟨hi.1, hi.2, by omega, by simp⟩, ho1, hb1⟩
 case round =>
  obtain ⟨f, j, acc, rfl, he, hj, hR, hB⟩ := hrel
  have hgr := hg.below hB
  have hbr := hbx.below hB
  have hst := grid_Step_eq H W bl ri be j way (bl.length + 3) (Nat.le_refl _) hg.ok hw03
  obtain ⟨b0, b1, b2, b3, b4⟩ := hbr
  obtain ⟨f, rfl⟩ : ∃ f', f = f' + 1 := ⟨f - 1, by omega⟩
  cases hok : (gStep H W bl ri be j way).2 with
  | false =>
   have hrun : grun H W bl ri be way (f + 1) j = [j] := by simp only [grun, hok]; rfl
   rw [hok] at hst
   rw [hrun] at he
   replace he := Lib.hid he
   replace hst := Lib.hid hst
   clear hok hrun
   replace hR := Lib.hid hR
   go_wp2_with (go_at_call 85; refine (grid_Step.calls _ _ _ _ _ _ _ _ _ _ _ _ _ _ _ _ _ hgr.h2 hgr.c2 hgr.h3 hgr.c3 hgr.h4 hgr.c4 hst.out).mono ?_; rintro e w3 ⟨rfl, hb3⟩)
   go_ret
   refine ⟨_, rfl, ?_, hB.trans (hb3.mono hB.size)⟩
   rw [← he.out]
   exact Kd.R_below hR.out hb3
  | true =>
   have hyes := gStep_yes hg.ok hw hok
   have hrun : grun H W bl ri be way (f + 1) j = j :: grun H W bl ri be way f (gStep H W bl ri be j way).1 := by simp only [grun, hok]; rfl
   obtain ⟨j2, hj2⟩ : ∃ j2, (gStep H W bl ri be j way).1 = j2 := ⟨_, rfl⟩
   rw [hok, hj2] at hst
   rw [hrun, hj2] at he
   rw [hj2] at hyes
   replace he := Lib.hid he
   replace hst := Lib.hid hst
   have hlen : (acc ++ [j]).length + 1 < 17592186044416 := by simp; omega
   replace hlen := Lib.hid hlen
   clear hok hrun hj2
   replace hR := Lib.hid hR
   go_wp2_with (first | (go_at_call 85; refine (grid_Step.calls _ _ _ _ _ _ _ _ _ _ _ _ _ _ _ _ _ hgr.h2 hgr.c2 hgr.h3 hgr.c3 hgr.h4 hgr.c4 hst.out).mono ?_; rintro e w3 ⟨rfl, hb3⟩; have hR3 := Lib.hid (Kd.R_below hR.out hb3); have hB3 := hB.trans (hb3.mono hB.size)) | ((with_reducible refine gate_builtin (b := .append) (xs := #[.tmp 21, .tmp 23]) rfl ?_); go_must (at_builtin; refine Kd.R_append (Kd.int .i64) (w0 := w) w.heap.size rfl (.tmp 21) (.tmp 23) 132 3 (.int .i64 0) 8 rfl Tryz.underlying132 int_info rfl (by decide) (by omega) u6 (acc ++ [j]) j2 [.int .i64 j2] (fun _ => True) (fun _ => False) rfl rfl ?aP (fun _ hk => hk.elim) ?aF ?aO ?aB ?aS ?aL ?_; (case aP => exact rfl); (case aB => exact hB3); (case aF => exact (fun _ _ => trivial)); (case aO => exact hR3.out); (case aS => exact hB3.size); (case aL => have := hlen.out; omega); intro v4 w4 ho hb hg4 hat)))
   go_roundw
   case rel => exact ⟨f, j2, acc ++ [j], rfl, by have := he.out; simpa using this, ⟨by omega, by omega, by omega, by simp; omega⟩, ho, hb⟩
   case measure => simp [intOf]; omega
end Go.Proofs.YtjopbfidjapmbaaGreatDoor.Q
end
