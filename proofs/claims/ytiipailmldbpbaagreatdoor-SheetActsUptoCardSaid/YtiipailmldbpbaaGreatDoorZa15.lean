/- PART 15 OF A PROOF: Lean functions, and that the program computes them; written by hand and by a program. Not trusted: Lean checks it. -/
import Derived.Lib.MapLaws
import Derived.Test.YtiipailmldbpbaaGreatDoorZa2
import Derived.Test.YtiipailmldbpbaaGreatDoorZa3
import Derived.Test.YtiipailmldbpbaaGreatDoorZa6
import Derived.Test.YtiipailmldbpbaaGreatDoorZa11
set_option linter.unusedVariables false
set_option linter.unusedSimpArgs false
section
namespace Go.Proofs.YtiipailmldbpbaaGreatDoor.Q
open Go.RowKit Go.Proofs.YtiipailmldbpbaaGreatDoorW.PrintWords Go.Proofs.YtiipailmldbpbaaGreatDoorW.PrintLast Go.Proofs.YtiipailmldbpbaaGreatDoorW.PrintMore
set_option linter.unusedVariables false
set_option linter.unusedSimpArgs false
open Go.Proofs.YtiipailmldbpbaaGreatDoorS
theorem cells5 {w : World} {b t : Nat} {v0 v1 v2 v3 v4 : Value} (h : w.heap[b]? = some (.cells #[v0, v1, v2, v3, v4] t (0, 0))) : w.cell? ⟨b, 0, none⟩ = some v0 ∧ w.cell? ⟨b, 1, none⟩ = some v1 ∧ w.cell? ⟨b, 2, none⟩ = some v2 ∧ w.cell? ⟨b, 3, none⟩ = some v3 ∧ w.cell? ⟨b, 4, none⟩ = some v4 :=
  ⟨(blk_cell h 0).trans rfl, (blk_cell h 1).trans rfl, (blk_cell h 2).trans rfl, (blk_cell h 3).trans rfl, (blk_cell h 4).trans rfl⟩
structure GridC (A2 : Option Addr) (c2 : Nat) (bl : List Bool) (A3 : Option Addr) (c3 : Nat) (ri : List Bool) (A4 : Option Addr) (c4 : Nat) (be : List Bool) (w : World) : Prop where
  h2 : Kd.C Kd.bool w A2 bl.length bl
  h3 : Kd.C Kd.bool w A3 ri.length ri
  h4 : Kd.C Kd.bool w A4 be.length be
theorem GridC.below {A2 : Option Addr} {c2 : Nat} {bl : List Bool} {A3 : Option Addr} {c3 : Nat} {ri : List Bool} {A4 : Option Addr} {c4 : Nat} {be : List Bool} {w w' : World} (h : GridC A2 c2 bl A3 c3 ri A4 c4 be w) (hb : Below w.heap.size w w') : GridC A2 c2 bl A3 c3 ri A4 c4 be w' :=
  ⟨Kd.C_below h.h2 hb, Kd.C_below h.h3 hb, Kd.C_below h.h4 hb⟩
theorem rebusref05_side.calls (n : Int) (w : World) : Calls Tryz.prog 68 #[.int .i64 n] w fun e w' => e = .returned (.bool (decide (1 ≤ n) && decide (n ≤ 16))) ∧ w = w' := by
  go_enter Tryz.func68, Tryz.ntmps68
  go_wp2
  all_goals go_ret
  all_goals refine ⟨congrArg (fun x => Ending.returned (Value.bool x)) ?_, rfl⟩
  all_goals try simp only [decide_eq_true_eq, decide_eq_false_iff_not] at *
  all_goals first
    | (rw [decide_eq_false (by omega : ¬ 1 ≤ n)]; rfl)
    | (rw [decide_eq_true (by omega : 1 ≤ n)]; simp)
structure Dims (H W : Int) (bl ri be : List Bool) : Prop where
  h1 : 1 ≤ H
  h2 : H ≤ 16
  w1 : 1 ≤ W
  w2 : W ≤ 16
  b : (bl.length : Int) = H * W
  r : (ri.length : Int) = H * W
  e : (be.length : Int) = H * W
  n : H * W ≤ 256
theorem Dims.mk2 {H W : Int} {bl ri be : List Bool} (h1 : gsides H W = true) (h2 : gsizes H W bl ri be = true) : Dims H W bl ri be := by
  simp only [gsides, gsizes, Bool.and_eq_true, decide_eq_true_eq] at h1 h2
  exact ⟨h1.1.1, h1.1.2, h1.2.1, h1.2.2, h2.1, h2.2.1, h2.2.2, Int.mul_le_mul h1.1.2 h1.2.2 (by omega) (by omega)⟩
theorem Dims.of {H W : Int} {bl ri be : List Bool} (h : gcheck H W bl ri be = 0) : Dims H W bl ri be := by
  unfold gcheck at h
  split at h
  · cases h
  · rename_i h1
    split at h
    · cases h
    · rename_i h2
      exact Dims.mk2 (by simpa using h1) (by simpa using h2)
theorem gbads_step {H W : Int} {bl ri be : List Bool} {n i : Nat} (hi : i < n) : gbads H W bl ri be (n - i) i = (gbad H W bl ri be i || gbads H W bl ri be (n - (i + 1)) (i + 1)) := by
  obtain ⟨d, hd⟩ : ∃ d, n - i = d + 1 := ⟨n - i - 1, by omega⟩
  rw [hd, show n - (i + 1) = d by omega]
  rfl
theorem place_facts {H W q : Int} (hW : 1 ≤ W) (h0 : 0 ≤ q) (h1 : q < H * W) : ∃ d m, q / W = d ∧ q % W = m ∧ 0 ≤ d ∧ d < H ∧ 0 ≤ m ∧ m < W ∧ d ≤ q ∧ (m + 1 < W → q + 1 < H * W) ∧ (d + 1 < H → q + W < H * W) ∧ (0 < m → 0 ≤ q - 1) ∧ (0 < d → 0 ≤ q - W) := by
  obtain ⟨d, hd⟩ : ∃ d, q / W = d := ⟨_, rfl⟩
  obtain ⟨m, hm⟩ : ∃ m, q % W = m := ⟨_, rfl⟩
  have hm0 : 0 ≤ m := by rw [← hm]; exact Int.emod_nonneg _ (by omega)
  have hmW : m < W := by rw [← hm]; exact Int.emod_lt_of_pos _ (by omega)
  have hs := Int.mul_ediv_add_emod q W
  rw [Int.mul_comm, hd, hm] at hs
  have hd0 : 0 ≤ d := by rw [← hd]; exact Int.ediv_nonneg h0 (by omega)
  have hdH : d < H := by rw [← hd]; exact Int.ediv_lt_of_lt_mul (by omega) h1
  have hdq : d * 1 ≤ d * W := Int.mul_le_mul_of_nonneg_left hW hd0
  have hx : (d + 1) * W ≤ H * W := Int.mul_le_mul_of_nonneg_right (by omega) (by omega)
  rw [Int.add_mul, Int.one_mul] at hx
  refine ⟨d, m, hd, hm, hd0, hdH, hm0, hmW, by omega, fun _ => by omega, fun h => ?_, fun _ => ?_, fun h => ?_⟩
  · have hy : (d + 1 + 1) * W ≤ H * W := Int.mul_le_mul_of_nonneg_right (by omega) (by omega)
    rw [Int.add_mul, Int.add_mul, Int.one_mul] at hy
    omega
  · have : 0 ≤ d * W := Int.mul_nonneg hd0 (by omega)
    omega
  · have hy : 1 * W ≤ d * W := Int.mul_le_mul_of_nonneg_right (by omega) (by omega)
    rw [Int.one_mul] at hy
    omega
set_option maxHeartbeats 8000000 in
set_option maxRecDepth 1000000 in
theorem rebusref05_barred.calls {H W : Int} {A2 : Option Addr} {c2 : Nat} {bl : List Bool} {A3 : Option Addr} {c3 : Nat} {ri : List Bool} {A4 : Option Addr} {c4 : Nat} {be : List Bool} {w : World} (h : GridC A2 c2 bl A3 c3 ri A4 c4 be w) (hd : Dims H W bl ri be) :
    Calls Tryz.prog 69 #[.agg #[.int .i64 H, .int .i64 W, .slice A2 bl.length c2, .slice A3 ri.length c3, .slice A4 be.length c4]] w fun e w' => e = .returned (.bool (gbads H W bl ri be bl.length 0)) ∧ Below w.heap.size w w' := by
  have hx := box1 w (.cells #[.int .i64 H, .int .i64 W, .slice A2 bl.length c2, .slice A3 ri.length c3, .slice A4 be.length c4] 24)
  replace hx := Lib.hid hx
  have hu24 := Tryz.underlying24
  have hH1 := hd.h1
  have hH2 := hd.h2
  have hW1 := hd.w1
  have hW2 := hd.w2
  have hnn := hd.n
  have hbl := hd.b
  have hri := hd.r
  have hbe := hd.e
  obtain ⟨n, hn⟩ : ∃ n, H * W = n := ⟨_, rfl⟩
  have hn0 : 0 ≤ n := by rw [← hn]; exact Int.mul_nonneg (by omega) (by omega)
  rw [hn] at hnn hbl hri hbe
  have hwn : wrap64 (H * W) = n := by rw [hn]; exact w64 (by omega) (by omega)
  replace hn := Lib.hid hn
  clear hd
  go_enter Tryz.func69, Tryz.ntmps69
  go_wp2
  generalize w.alloc (.cells #[.int .i64 H, .int .i64 W, .slice A2 bl.length c2, .slice A3 ri.length c3, .slice A4 be.length c4] 24) = w1 at hx ⊢
  go_loopw [3] (fun v3 wr => ∃ (i : Nat) (q : Int), v3 = .int .i64 q ∧ Hid (q = i ∧ i ≤ bl.length) ∧ Hid (gbads H W bl ri be bl.length 0 = gbads H W bl ri be (bl.length - i) i) ∧ Hid (Below w1.heap.size w1 wr)) (fun v3 _ => bl.length - (intOf v3).toNat)
  case atStart => exact ⟨0, 0, rfl, Lib.hid ⟨rfl, Nat.zero_le _⟩, Lib.hid rfl, Lib.hid (Below.refl _ _)⟩
  case round =>
    obtain ⟨i, q, rfl, hq, hg, hB⟩ := hrel
    obtain ⟨b0, b1, b2, b3, b4⟩ := cells5 (blk_below hx.out.1 hB.out)
    have hc := (h.below hx.out.2).below hB.out
    by_cases hlt : i < bl.length
    · have hq0 : 0 ≤ q := by have := hq.out; omega
      have hq1 : q < n := by have := hq.out; omega
      obtain ⟨d, m, ed, em, hd0, hdH, hm0, hmW, hdq, k1, k2, _, _⟩ := place_facts (H := H) hW1 hq0 (by rw [hn.out]; exact hq1)
      rw [hn.out] at k1 k2
      have hdw : wrap64 (q.tdiv W) = d := by rw [Int.tdiv_eq_ediv_of_nonneg hq0, ed]; exact w64 (by omega) (by omega)
      have hmw : wrap64 (q.tmod W) = m := by rw [Int.tmod_eq_emod_of_nonneg hq0, em]; exact w64 (by omega) (by omega)
      have hgs := gbads_step (H := H) (W := W) (bl := bl) (ri := ri) (be := be) hlt
      have egb : gbad H W bl ri be (i : Int) = ((rdOf false ri q && (rdOf false bl q || (m == W - 1) || rdOf false bl (q + 1))) || (rdOf false be q && (rdOf false bl q || (d == H - 1) || rdOf false bl (q + W)))) := by
        unfold gbad
        rw [← hq.out.1, em, ed]
        rfl
      rw [egb] at hgs
      clear egb
      obtain ⟨a2, e2, z2⟩ := Kd.at_bool hc.h2 q hq0 (by omega)
      obtain ⟨a3, e3, z3⟩ := Kd.at_bool hc.h3 q hq0 (by omega)
      obtain ⟨a4, e4, z4⟩ := Kd.at_bool hc.h4 q hq0 (by omega)
      cases e2
      cases e3
      cases e4
      replace hgs := Lib.hid hgs
      replace hlt := Lib.hid hlt
      obtain ⟨rr, hrr⟩ : ∃ x, rdOf false ri q = x := ⟨_, rfl⟩
      obtain ⟨bb, hbb⟩ : ∃ x, rdOf false bl q = x := ⟨_, rfl⟩
      obtain ⟨ee, hee⟩ : ∃ x, rdOf false be q = x := ⟨_, rfl⟩
      replace hgs := hgs.out
      rw [hrr, hbb, hee] at hgs
      rw [hrr] at z3
      rw [hbb] at z2
      rw [hee] at z4
      replace hgs := Lib.hid hgs
      clear hrr hbb hee
      cases rr with
      | false =>
        cases ee with
        | false =>
          have hv : gbads H W bl ri be bl.length 0 = gbads H W bl ri be (bl.length - (i + 1)) (i + 1) := by rw [hg.out, hgs.out]; simp []
          replace hv := Lib.hid hv
          go_wp2
          go_quiet (fail)
          go_wp2
          go_quiet (fail)
          go_wp2
          refine ⟨⟨i + 1, q + 1, rfl, Lib.hid ⟨by have := hq.out; omega, hlt.out⟩, hv, Lib.hid (by first | exact pw_below_drewN hB.out _ | exact pw_below_drewN (pw_below_drewN hB.out _) _)⟩, ?_⟩
          simp only [intOf]; have := hq.out; have := hlt.out; omega
        | true =>
          cases bb with
          | true =>
            have hv : gbads H W bl ri be bl.length 0 = true := by rw [hg.out, hgs.out]; simp []
            replace hv := Lib.hid hv
            go_wp2
            go_quiet (fail)
            go_wp2
            go_quiet (fail)
            go_wp2
            go_ret
            exact ⟨by rw [hv.out]; rfl, by first | exact pw_below_drewN (below_step hx.out.2 hB.out) _ | exact pw_below_drewN (pw_below_drewN (below_step hx.out.2 hB.out) _) _⟩
          | false =>
            by_cases hdd : d = H - 1
            · have t2 : (d == H - 1) = true := by simpa using hdd
              clear hdd
              have hv : gbads H W bl ri be bl.length 0 = true := by rw [hg.out, hgs.out]; simp [t2]
              replace hv := Lib.hid hv
              go_wp2
              go_quiet (fail)
              go_wp2
              go_quiet (fail)
              go_wp2
              go_ret
              exact ⟨by rw [hv.out]; rfl, by first | exact pw_below_drewN (below_step hx.out.2 hB.out) _ | exact pw_below_drewN (pw_below_drewN (below_step hx.out.2 hB.out) _) _⟩
            · have t2 : (d == H - 1) = false := by simpa using hdd
              obtain ⟨a6, e6, z6⟩ := Kd.at_bool hc.h2 (q + W) (by omega) (by have := k2 (by omega); omega)
              cases e6
              obtain ⟨b2, hb2⟩ : ∃ x, rdOf false bl (q + W) = x := ⟨_, rfl⟩
              rw [hb2] at z6
              have k3 : q + W < n := k2 (by omega)
              clear hdd
              cases b2 with
              | true =>
                have hv : gbads H W bl ri be bl.length 0 = true := by rw [hg.out, hgs.out]; simp [t2, hb2]
                replace hv := Lib.hid hv
                go_wp2
                go_quiet (fail)
                go_wp2
                go_quiet (fail)
                go_wp2
                go_ret
                exact ⟨by rw [hv.out]; rfl, by first | exact pw_below_drewN (below_step hx.out.2 hB.out) _ | exact pw_below_drewN (pw_below_drewN (below_step hx.out.2 hB.out) _) _⟩
              | false =>
                have hv : gbads H W bl ri be bl.length 0 = gbads H W bl ri be (bl.length - (i + 1)) (i + 1) := by rw [hg.out, hgs.out]; simp [t2, hb2]
                replace hv := Lib.hid hv
                go_wp2
                go_quiet (fail)
                go_wp2
                go_quiet (fail)
                go_wp2
                refine ⟨⟨i + 1, q + 1, rfl, Lib.hid ⟨by have := hq.out; omega, hlt.out⟩, hv, Lib.hid (by first | exact pw_below_drewN hB.out _ | exact pw_below_drewN (pw_below_drewN hB.out _) _)⟩, ?_⟩
                simp only [intOf]; have := hq.out; have := hlt.out; omega
      | true =>
        cases bb with
        | true =>
          have hv : gbads H W bl ri be bl.length 0 = true := by rw [hg.out, hgs.out]; simp []
          replace hv := Lib.hid hv
          go_wp2
          go_quiet (fail)
          go_wp2
          go_ret
          exact ⟨by rw [hv.out]; rfl, by first | exact pw_below_drewN (below_step hx.out.2 hB.out) _ | exact pw_below_drewN (pw_below_drewN (below_step hx.out.2 hB.out) _) _⟩
        | false =>
          by_cases hmm : m = W - 1
          · have t1 : (m == W - 1) = true := by simpa using hmm
            clear hmm
            have hv : gbads H W bl ri be bl.length 0 = true := by rw [hg.out, hgs.out]; simp [t1]
            replace hv := Lib.hid hv
            go_wp2
            go_quiet (fail)
            go_wp2
            go_ret
            exact ⟨by rw [hv.out]; rfl, by first | exact pw_below_drewN (below_step hx.out.2 hB.out) _ | exact pw_below_drewN (pw_below_drewN (below_step hx.out.2 hB.out) _) _⟩
          · have t1 : (m == W - 1) = false := by simpa using hmm
            obtain ⟨a5, e5, z5⟩ := Kd.at_bool hc.h2 (q + 1) (by omega) (by have := k1 (by omega); omega)
            cases e5
            obtain ⟨b1, hb1⟩ : ∃ x, rdOf false bl (q + 1) = x := ⟨_, rfl⟩
            rw [hb1] at z5
            have k4 : q + 1 < n := k1 (by omega)
            clear hmm
            cases b1 with
            | true =>
              have hv : gbads H W bl ri be bl.length 0 = true := by rw [hg.out, hgs.out]; simp [t1, hb1]
              replace hv := Lib.hid hv
              go_wp2
              go_quiet (fail)
              go_wp2
              go_ret
              exact ⟨by rw [hv.out]; rfl, by first | exact pw_below_drewN (below_step hx.out.2 hB.out) _ | exact pw_below_drewN (pw_below_drewN (below_step hx.out.2 hB.out) _) _⟩
            | false =>
              cases ee with
              | false =>
                have hv : gbads H W bl ri be bl.length 0 = gbads H W bl ri be (bl.length - (i + 1)) (i + 1) := by rw [hg.out, hgs.out]; simp [t1, hb1]
                replace hv := Lib.hid hv
                go_wp2
                go_quiet (fail)
                go_wp2
                go_quiet (fail)
                go_wp2
                refine ⟨⟨i + 1, q + 1, rfl, Lib.hid ⟨by have := hq.out; omega, hlt.out⟩, hv, Lib.hid (by first | exact pw_below_drewN hB.out _ | exact pw_below_drewN (pw_below_drewN hB.out _) _)⟩, ?_⟩
                simp only [intOf]; have := hq.out; have := hlt.out; omega
              | true =>
                by_cases hdd : d = H - 1
                · have t2 : (d == H - 1) = true := by simpa using hdd
                  clear hdd
                  have hv : gbads H W bl ri be bl.length 0 = true := by rw [hg.out, hgs.out]; simp [t1, hb1, t2]
                  replace hv := Lib.hid hv
                  go_wp2
                  go_quiet (fail)
                  go_wp2
                  go_quiet (fail)
                  go_wp2
                  go_ret
                  exact ⟨by rw [hv.out]; rfl, by first | exact pw_below_drewN (below_step hx.out.2 hB.out) _ | exact pw_below_drewN (pw_below_drewN (below_step hx.out.2 hB.out) _) _⟩
                · have t2 : (d == H - 1) = false := by simpa using hdd
                  obtain ⟨a6, e6, z6⟩ := Kd.at_bool hc.h2 (q + W) (by omega) (by have := k2 (by omega); omega)
                  cases e6
                  obtain ⟨b2, hb2⟩ : ∃ x, rdOf false bl (q + W) = x := ⟨_, rfl⟩
                  rw [hb2] at z6
                  have k3 : q + W < n := k2 (by omega)
                  clear hdd
                  cases b2 with
                  | true =>
                    have hv : gbads H W bl ri be bl.length 0 = true := by rw [hg.out, hgs.out]; simp [t1, hb1, t2, hb2]
                    replace hv := Lib.hid hv
                    go_wp2
                    go_quiet (fail)
                    go_wp2
                    go_quiet (fail)
                    go_wp2
                    go_ret
                    exact ⟨by rw [hv.out]; rfl, by first | exact pw_below_drewN (below_step hx.out.2 hB.out) _ | exact pw_below_drewN (pw_below_drewN (below_step hx.out.2 hB.out) _) _⟩
                  | false =>
                    have hv : gbads H W bl ri be bl.length 0 = gbads H W bl ri be (bl.length - (i + 1)) (i + 1) := by rw [hg.out, hgs.out]; simp [t1, hb1, t2, hb2]
                    replace hv := Lib.hid hv
                    go_wp2
                    go_quiet (fail)
                    go_wp2
                    go_quiet (fail)
                    go_wp2
                    refine ⟨⟨i + 1, q + 1, rfl, Lib.hid ⟨by have := hq.out; omega, hlt.out⟩, hv, Lib.hid (by first | exact pw_below_drewN hB.out _ | exact pw_below_drewN (pw_below_drewN hB.out _) _)⟩, ?_⟩
                    simp only [intOf]; have := hq.out; have := hlt.out; omega
    · have hge : ¬ q < n := by have := hq.out; omega
      have hv : gbads H W bl ri be bl.length 0 = false := by rw [hg.out, show bl.length - i = 0 by have := hq.out; omega]; rfl
      replace hv := Lib.hid hv
      go_wp2
      go_ret
      exact ⟨by rw [hv.out]; rfl, below_step hx.out.2 hB.out⟩
end Go.Proofs.YtiipailmldbpbaaGreatDoor.Q
end
section
namespace Go.Proofs.YtiipailmldbpbaaGreatDoor.Q
open Go.RowKit Go.Proofs.YtiipailmldbpbaaGreatDoorW.PrintWords Go.Proofs.YtiipailmldbpbaaGreatDoorW.PrintLast Go.Proofs.YtiipailmldbpbaaGreatDoorW.PrintMore
set_option linter.unusedVariables false
set_option linter.unusedSimpArgs false
open Go.Proofs.YtiipailmldbpbaaGreatDoorS
set_option maxHeartbeats 8000000 in
set_option maxRecDepth 1000000 in
theorem rebusref05_Check.calls {H W : Int} {A2 : Option Addr} {c2 : Nat} {bl : List Bool} {A3 : Option Addr} {c3 : Nat} {ri : List Bool} {A4 : Option Addr} {c4 : Nat} {be : List Bool} {w : World} (h : GridC A2 c2 bl A3 c3 ri A4 c4 be w) :
    Calls Tryz.prog 52 #[.agg #[.int .i64 H, .int .i64 W, .slice A2 bl.length c2, .slice A3 ri.length c3, .slice A4 be.length c4]] w fun e w' => e = .returned (.int .i64 (gcheck H W bl ri be)) ∧ Below w.heap.size w w' := by
  have hx := box1 w (.cells #[.int .i64 H, .int .i64 W, .slice A2 bl.length c2, .slice A3 ri.length c3, .slice A4 be.length c4] 24)
  replace hx := Lib.hid hx
  have hu24 := Tryz.underlying24
  obtain ⟨g0, g1, g2, g3, g4⟩ := cells5 hx.out.1
  have tok1 : True := trivial
  have tok2 : True := trivial
  cases hs1 : decide (1 ≤ H) && decide (H ≤ 16) with
  | false =>
    have hv : gcheck H W bl ri be = 50 := by
      have : gsides H W = false := by
        unfold gsides
        rw [Bool.decide_and, hs1, Bool.false_and]
      unfold gcheck
      rw [if_pos this]
    rw [hv]
    clear hv
    go_enter Tryz.func52, Tryz.ntmps52
    go_wp2_with (first
      | (go_at_call 68; have tq := tok1; go_must (clear tq tok1; refine (rebusref05_side.calls _ _).mono ?_; rintro e w2 ⟨rfl, rfl⟩; rw [hs1])))
    go_ret
    exact ⟨rfl, hx.out.2⟩
  | true =>
    cases hs2 : decide (1 ≤ W) && decide (W ≤ 16) with
    | false =>
      have hv : gcheck H W bl ri be = 50 := by
        have : gsides H W = false := by
          unfold gsides
          simp only [Bool.decide_and]
          rw [hs1, hs2]
          rfl
        unfold gcheck
        rw [if_pos this]
      rw [hv]
      clear hv
      go_enter Tryz.func52, Tryz.ntmps52
      go_wp2_with (first
        | (go_at_call 68; have tq := tok1; go_must (clear tq tok1; refine (rebusref05_side.calls _ _).mono ?_; rintro e w2 ⟨rfl, rfl⟩; rw [hs1]))
        | (go_at_call 68; have tq := tok2; go_must (clear tq tok2; refine (rebusref05_side.calls _ _).mono ?_; rintro e w2 ⟨rfl, rfl⟩; rw [hs2])))
      go_ret
      exact ⟨rfl, hx.out.2⟩
    | true =>
      have hsd : gsides H W = true := by
        simp only [Bool.and_eq_true, decide_eq_true_eq] at hs1 hs2
        unfold gsides
        rw [decide_eq_true hs1, decide_eq_true hs2]
        rfl
      have hb : 1 ≤ H ∧ H ≤ 16 ∧ 1 ≤ W ∧ W ≤ 16 := by
        simp only [Bool.and_eq_true, decide_eq_true_eq] at hs1 hs2
        omega
      obtain ⟨n, hn⟩ : ∃ n, H * W = n := ⟨_, rfl⟩
      have hn1 : n ≤ 256 := by rw [← hn]; exact Int.mul_le_mul hb.2.1 hb.2.2.2 (by omega) (by omega)
      have hn0 : 0 ≤ n := by rw [← hn]; exact Int.mul_nonneg (by omega) (by omega)
      have hwn : wrap64 (H * W) = n := by rw [hn]; exact w64 (by omega) (by omega)
      replace hb := Lib.hid hb
      by_cases h1 : (bl.length : Int) = n
      · have t1 : ((bl.length : Int) != n) = false := by rw [h1]; simp
        by_cases h2 : (ri.length : Int) = n
        · have t2 : ((ri.length : Int) != n) = false := by rw [h2]; simp
          by_cases h3 : (be.length : Int) = n
          · have t3 : ((be.length : Int) != n) = false := by rw [h3]; simp
            have hsz : gsizes H W bl ri be = true := by unfold gsizes; rw [hn]; exact decide_eq_true ⟨h1, h2, h3⟩
            have hd := Lib.hid (Dims.mk2 hsd hsz)
            cases hgb : gbads H W bl ri be bl.length 0 with
            | true =>
              have hv : gcheck H W bl ri be = 52 := by unfold gcheck; rw [hsd, hsz, hgb]; rfl
              rw [hv]
              clear hv hsd hsz h1 h2 h3
              go_enter Tryz.func52, Tryz.ntmps52
              go_wp2_with (first
                | (go_at_call 68; have tq := tok1; go_must (clear tq tok1; refine (rebusref05_side.calls _ _).mono ?_; rintro e w2 ⟨rfl, rfl⟩; rw [hs1]))
                | (go_at_call 68; have tq := tok2; go_must (clear tq tok2; refine (rebusref05_side.calls _ _).mono ?_; rintro e w2 ⟨rfl, rfl⟩; rw [hs2]))
                | (go_at_call 69; go_must (refine (rebusref05_barred.calls (h.below hx.out.2) hd.out).mono ?_; rintro e w3 ⟨rfl, hb3⟩; rw [hgb])))
              go_ret
              exact ⟨rfl, below_step hx.out.2 hb3⟩
            | false =>
              have hv : gcheck H W bl ri be = 0 := by unfold gcheck; rw [hsd, hsz, hgb]; rfl
              rw [hv]
              clear hv hsd hsz h1 h2 h3
              go_enter Tryz.func52, Tryz.ntmps52
              go_wp2_with (first
                | (go_at_call 68; have tq := tok1; go_must (clear tq tok1; refine (rebusref05_side.calls _ _).mono ?_; rintro e w2 ⟨rfl, rfl⟩; rw [hs1]))
                | (go_at_call 68; have tq := tok2; go_must (clear tq tok2; refine (rebusref05_side.calls _ _).mono ?_; rintro e w2 ⟨rfl, rfl⟩; rw [hs2]))
                | (go_at_call 69; go_must (refine (rebusref05_barred.calls (h.below hx.out.2) hd.out).mono ?_; rintro e w3 ⟨rfl, hb3⟩; rw [hgb])))
              go_ret
              exact ⟨rfl, below_step hx.out.2 hb3⟩
          · have t3 : ((be.length : Int) != n) = true := bne_iff_ne.2 h3
            have hv : gcheck H W bl ri be = 51 := by
              have : gsizes H W bl ri be = false := by unfold gsizes; rw [hn]; exact decide_eq_false (by omega)
              unfold gcheck
              rw [hsd, this]
              rfl
            rw [hv]
            clear hv hsd
            go_enter Tryz.func52, Tryz.ntmps52
            go_wp2_with (first
              | (go_at_call 68; have tq := tok1; go_must (clear tq tok1; refine (rebusref05_side.calls _ _).mono ?_; rintro e w2 ⟨rfl, rfl⟩; rw [hs1]))
              | (go_at_call 68; have tq := tok2; go_must (clear tq tok2; refine (rebusref05_side.calls _ _).mono ?_; rintro e w2 ⟨rfl, rfl⟩; rw [hs2])))
            go_ret
            exact ⟨rfl, hx.out.2⟩
        · have t2 : ((ri.length : Int) != n) = true := bne_iff_ne.2 h2
          have hv : gcheck H W bl ri be = 51 := by
            have : gsizes H W bl ri be = false := by unfold gsizes; rw [hn]; exact decide_eq_false (by omega)
            unfold gcheck
            rw [hsd, this]
            rfl
          rw [hv]
          clear hv hsd
          go_enter Tryz.func52, Tryz.ntmps52
          go_wp2_with (first
            | (go_at_call 68; have tq := tok1; go_must (clear tq tok1; refine (rebusref05_side.calls _ _).mono ?_; rintro e w2 ⟨rfl, rfl⟩; rw [hs1]))
            | (go_at_call 68; have tq := tok2; go_must (clear tq tok2; refine (rebusref05_side.calls _ _).mono ?_; rintro e w2 ⟨rfl, rfl⟩; rw [hs2])))
          go_ret
          exact ⟨rfl, hx.out.2⟩
      · have t1 : ((bl.length : Int) != n) = true := bne_iff_ne.2 h1
        have hv : gcheck H W bl ri be = 51 := by
          have : gsizes H W bl ri be = false := by unfold gsizes; rw [hn]; exact decide_eq_false (by omega)
          unfold gcheck
          rw [hsd, this]
          rfl
        rw [hv]
        clear hv hsd
        go_enter Tryz.func52, Tryz.ntmps52
        go_wp2_with (first
          | (go_at_call 68; have tq := tok1; go_must (clear tq tok1; refine (rebusref05_side.calls _ _).mono ?_; rintro e w2 ⟨rfl, rfl⟩; rw [hs1]))
          | (go_at_call 68; have tq := tok2; go_must (clear tq tok2; refine (rebusref05_side.calls _ _).mono ?_; rintro e w2 ⟨rfl, rfl⟩; rw [hs2])))
        go_ret
        exact ⟨rfl, hx.out.2⟩
set_option maxHeartbeats 8000000 in
set_option maxRecDepth 1000000 in
theorem rebusref05_Open.calls {H W : Int} {A2 : Option Addr} {c2 : Nat} {bl : List Bool} {A3 : Option Addr} {c3 : Nat} {ri : List Bool} {A4 : Option Addr} {c4 : Nat} {be : List Bool} {w : World} {i : Int} (h : GridC A2 c2 bl A3 c3 ri A4 c4 be w) :
    Calls Tryz.prog 25 #[.agg #[.int .i64 H, .int .i64 W, .slice A2 bl.length c2, .slice A3 ri.length c3, .slice A4 be.length c4], .int .i64 i] w fun e w' => e = .returned (.bool (decide (gcheck H W bl ri be = 0) && gopen bl i)) ∧ Below w.heap.size w w' := by
  have hx := box1 w (.cells #[.int .i64 H, .int .i64 W, .slice A2 bl.length c2, .slice A3 ri.length c3, .slice A4 be.length c4] 24)
  replace hx := Lib.hid hx
  have hu24 := Tryz.underlying24
  by_cases hg : gcheck H W bl ri be = 0
  · have hd := Dims.of hg
    obtain ⟨n, hn⟩ : ∃ n, H * W = n := ⟨_, rfl⟩
    have hn1 : n ≤ 256 := by rw [← hn]; exact hd.n
    have hn0 : 0 ≤ n := by rw [← hn]; exact Int.mul_nonneg (by have := hd.h1; omega) (by have := hd.w1; omega)
    have hwn : wrap64 (H * W) = n := by rw [hn]; exact w64 (by omega) (by omega)
    have hbn : (bl.length : Int) = n := by rw [← hn]; exact hd.b
    rw [decide_eq_true hg, Bool.true_and]
    clear hd hn
    replace hg := Lib.hid hg
    by_cases h0 : 0 ≤ i
    · by_cases h1 : i < n
      · obtain ⟨ad, e2, z2⟩ := Kd.at_bool (h.below hx.out.2).h2 i h0 (by omega)
        cases e2
        have hv : gopen bl i = !rdOf false bl i := by unfold gopen; rw [decide_eq_true ⟨h0, by omega⟩, Bool.true_and]; rfl
        rw [hv]
        clear hv
        obtain ⟨bb, hbb⟩ : ∃ x, rdOf false bl i = x := ⟨_, rfl⟩
        rw [hbb] at z2 ⊢
        clear hbb
        cases bb with
        | true =>
          go_enter Tryz.func25, Tryz.ntmps25
          go_wp2_with (first
            | (go_at_call 52; go_must (refine (rebusref05_Check.calls (h.below hx.out.2)).mono ?_; rintro e w3 ⟨rfl, hb3⟩; rw [hg.out]; have hc := cells5 (blk_below hx.out.1 hb3); have z2 := pw_cell_below hb3 z2)))
          go_ret
          exact ⟨rfl, below_step hx.out.2 hb3⟩
        | false =>
          go_enter Tryz.func25, Tryz.ntmps25
          go_wp2_with (first
            | (go_at_call 52; go_must (refine (rebusref05_Check.calls (h.below hx.out.2)).mono ?_; rintro e w3 ⟨rfl, hb3⟩; rw [hg.out]; have hc := cells5 (blk_below hx.out.1 hb3); have z2 := pw_cell_below hb3 z2)))
          go_ret
          exact ⟨rfl, below_step hx.out.2 hb3⟩
      · have hv : gopen bl i = false := by unfold gopen; rw [decide_eq_false (by omega)]; rfl
        rw [hv]
        clear hv
        go_enter Tryz.func25, Tryz.ntmps25
        go_wp2_with (first
          | (go_at_call 52; go_must (refine (rebusref05_Check.calls (h.below hx.out.2)).mono ?_; rintro e w3 ⟨rfl, hb3⟩; rw [hg.out]; have hc := cells5 (blk_below hx.out.1 hb3))))
        go_ret
        exact ⟨rfl, below_step hx.out.2 hb3⟩
    · have hv : gopen bl i = false := by unfold gopen; rw [decide_eq_false (by omega)]; rfl
      rw [hv]
      clear hv
      go_enter Tryz.func25, Tryz.ntmps25
      go_wp2_with (first
        | (go_at_call 52; go_must (refine (rebusref05_Check.calls (h.below hx.out.2)).mono ?_; rintro e w3 ⟨rfl, hb3⟩; rw [hg.out]; have hc := cells5 (blk_below hx.out.1 hb3))))
      go_ret
      exact ⟨rfl, below_step hx.out.2 hb3⟩
  · rw [decide_eq_false hg, Bool.false_and]
    have tg : (gcheck H W bl ri be == 0) = false := by simpa using hg
    go_enter Tryz.func25, Tryz.ntmps25
    go_wp2_with (first
      | (go_at_call 52; go_must (refine (rebusref05_Check.calls (h.below hx.out.2)).mono ?_; rintro e w3 ⟨rfl, hb3⟩)))
    go_ret
    exact ⟨rfl, below_step hx.out.2 hb3⟩
end Go.Proofs.YtiipailmldbpbaaGreatDoor.Q
end
section
namespace Go.Proofs.YtiipailmldbpbaaGreatDoor.Q
open Go.RowKit Go.Proofs.YtiipailmldbpbaaGreatDoorW.PrintWords Go.Proofs.YtiipailmldbpbaaGreatDoorW.PrintLast Go.Proofs.YtiipailmldbpbaaGreatDoorW.PrintMore
set_option linter.unusedVariables false
set_option linter.unusedSimpArgs false
open Go.Proofs.YtiipailmldbpbaaGreatDoorS
def rstep (c : Bool) (bar : Bool) (blk : Bool) (j : Int) : Int × Bool := if c then (if bar then (0, false) else if blk then (0, false) else (j, true)) else (0, false)
theorem gstep_ref {H W q d m : Int} {bl ri be : List Bool} (hW : 1 ≤ W) (hd : q / W = d) (hm : q % W = m) (hd0 : 0 ≤ d) (hdH : d < H) (hm0 : 0 ≤ m) (hmW : m < W) (hs : d * W + m = q) :
    gstep H W bl ri be q 0 = rstep (decide (m < W - 1)) (rdOf false ri q) (rdOf false bl (q + 1)) (q + 1) ∧
    gstep H W bl ri be q 1 = rstep (decide (d < H - 1)) (rdOf false be q) (rdOf false bl (q + W)) (q + W) ∧
    gstep H W bl ri be q 2 = rstep (decide (0 < m)) (rdOf false ri (q - 1)) (rdOf false bl (q - 1)) (q - 1) ∧
    gstep H W bl ri be q 3 = rstep (decide (0 < d)) (rdOf false be (q - W)) (rdOf false bl (q - W)) (q - W) := by
  have e0 : gby 0 = (0, 1) := rfl
  have e1 : gby 1 = (1, 0) := rfl
  have e2 : gby 2 = (0, -1) := rfl
  have e3 : gby 3 = (-1, 0) := rfl
  have x1 : (d + 1) * W = d * W + W := by rw [Int.add_mul, Int.one_mul]
  have x2 : (d + -1) * W = d * W - W := by rw [Int.add_mul]; omega
  refine ⟨?_, ?_, ?_, ?_⟩
  · unfold gstep rstep
    rw [e0, hd, hm]
    simp only [Int.add_zero]
    rw [show d * W + (m + 1) = q + 1 by omega, show min q (q + 1) = q by omega]
    by_cases hc : m < W - 1
    · rw [if_neg (by omega), decide_eq_true hc, if_pos rfl]
      show (if rdOf false bl (q + 1) = true then _ else _) = _
      cases rdOf false bl (q + 1) <;> cases hr : rdOf false ri q <;> simp [gat, rdOf, hr] at hr ⊢ <;> simp [hr]
    · rw [if_pos (by omega), decide_eq_false hc]; rfl
  · unfold gstep rstep
    rw [e1, hd, hm]
    simp only [Int.add_zero]
    rw [x1, show d * W + W + m = q + W by omega, show min q (q + W) = q by omega]
    by_cases hc : d < H - 1
    · rw [if_neg (by omega), decide_eq_true hc, if_pos rfl]
      show (if rdOf false bl (q + W) = true then _ else _) = _
      cases rdOf false bl (q + W) <;> cases hr : rdOf false be q <;> simp [gat, rdOf, hr] at hr ⊢ <;> simp [hr]
    · rw [if_pos (by omega), decide_eq_false hc]; rfl
  · unfold gstep rstep
    rw [e2, hd, hm]
    simp only [Int.add_zero]
    rw [show d * W + (m + -1) = q - 1 by omega, show min q (q - 1) = q - 1 by omega]
    by_cases hc : 0 < m
    · rw [if_neg (by omega), decide_eq_true hc, if_pos rfl]
      show (if rdOf false bl (q - 1) = true then _ else _) = _
      cases rdOf false bl (q - 1) <;> cases hr : rdOf false ri (q - 1) <;> simp [gat, rdOf, hr] at hr ⊢ <;> simp [hr]
    · rw [if_pos (by omega), decide_eq_false hc]; rfl
  · unfold gstep rstep
    rw [e3, hd, hm]
    simp only [Int.add_zero]
    rw [x2, show d * W - W + m = q - W by omega, show min q (q - W) = q - W by omega]
    by_cases hc : 0 < d
    · rw [if_neg (by omega), decide_eq_true hc, if_pos rfl]
      show (if rdOf false bl (q - W) = true then _ else _) = _
      cases rdOf false bl (q - W) <;> cases hr : rdOf false be (q - W) <;> simp [gat, rdOf, hr] at hr ⊢ <;> simp [hr]
    · rw [if_pos (by omega), decide_eq_false hc]; rfl
set_option maxHeartbeats 8000000 in
set_option maxRecDepth 1000000 in
theorem rebusref05_Step.calls {H W : Int} {A2 : Option Addr} {c2 : Nat} {bl : List Bool} {A3 : Option Addr} {c3 : Nat} {ri : List Bool} {A4 : Option Addr} {c4 : Nat} {be : List Bool} {w : World} {q way : Int} (h : GridC A2 c2 bl A3 c3 ri A4 c4 be w) (hg : gcheck H W bl ri be = 0) (hw : way = 0 ∨ way = 1 ∨ way = 2 ∨ way = 3) :
    Calls Tryz.prog 79 #[.agg #[.int .i64 H, .int .i64 W, .slice A2 bl.length c2, .slice A3 ri.length c3, .slice A4 be.length c4], .int .i64 q, .int .i64 way] w fun e w' => e = .returned (.tuple #[.int .i64 (gStep H W bl ri be q way).1, .bool (gStep H W bl ri be q way).2]) ∧ Below w.heap.size w w' := by
  have hx := box1 w (.cells #[.int .i64 H, .int .i64 W, .slice A2 bl.length c2, .slice A3 ri.length c3, .slice A4 be.length c4] 24)
  replace hx := Lib.hid hx
  have hu24 := Tryz.underlying24
  have hd := Dims.of hg
  cases hop : gopen bl q with
  | false =>
    have ho : (decide (gcheck H W bl ri be = 0) && gopen bl q) = false := by rw [hop, Bool.and_false]
    have hv : gStep H W bl ri be q way = (0, false) := by unfold gStep; rw [hop]; rfl
    rw [hv]
    clear hv hd
    replace hw := Lib.hid hw
    go_enter Tryz.func79, Tryz.ntmps79
    go_wp2_with (first
      | (go_at_call 25; go_must (refine (rebusref05_Open.calls (h.below hx.out.2)).mono ?_; rintro e w3 ⟨rfl, hb3⟩; rw [ho]; have hc := cells5 (blk_below hx.out.1 hb3))))
    go_ret2
    exact ⟨rfl, below_step hx.out.2 hb3⟩
  | true =>
    have ho : (decide (gcheck H W bl ri be = 0) && gopen bl q) = true := by rw [hop, decide_eq_true hg]; rfl
    have hv : gStep H W bl ri be q way = gstep H W bl ri be q way := by unfold gStep; rw [hop]; rfl
    rw [hv]
    clear hv
    have hop2 : 0 ≤ q ∧ q < bl.length := by
      unfold gopen at hop
      simp only [Bool.and_eq_true, decide_eq_true_eq] at hop
      exact hop.1
    obtain ⟨hq0, hq1⟩ := hop2
    obtain ⟨n, hn⟩ : ∃ n, H * W = n := ⟨_, rfl⟩
    have hn1 : n ≤ 256 := by rw [← hn]; exact hd.n
    have hbl : (bl.length : Int) = n := by rw [← hn]; exact hd.b
    have hri : (ri.length : Int) = n := by rw [← hn]; exact hd.r
    have hbe : (be.length : Int) = n := by rw [← hn]; exact hd.e
    have hH1 := hd.h1
    have hH2 := hd.h2
    have hW1 := hd.w1
    have hW2 := hd.w2
    obtain ⟨d, m, ed, em, hd0, hdH, hm0, hmW, hdq, k1, k2, k3, k4⟩ := place_facts (H := H) hW1 hq0 (by rw [hn]; omega)
    rw [hn] at k1 k2
    have hs : d * W + m = q := by have := Int.mul_ediv_add_emod q W; rw [Int.mul_comm, ed, em] at this; exact this
    have hdw : wrap64 (q.tdiv W) = d := by rw [Int.tdiv_eq_ediv_of_nonneg hq0, ed]; exact w64 (by omega) (by omega)
    have hmw : wrap64 (q.tmod W) = m := by rw [Int.tmod_eq_emod_of_nonneg hq0, em]; exact w64 (by omega) (by omega)
    obtain ⟨s0, s1, s2, s3⟩ := gstep_ref (bl := bl) (ri := ri) (be := be) hW1 ed em hd0 hdH hm0 hmW hs
    clear hs hd hop hn hdw hmw
    rcases hw with rfl | rfl | rfl | rfl
    · rw [s0]
      clear s0 s1 s2 s3
      by_cases hc0 : m < W - 1
      · have tc : decide (m < W - 1) = true := decide_eq_true hc0
        rw [tc]
        have kj : q + 1 < n := k1 (by omega)
        obtain ⟨a5, e5, z5⟩ := Kd.at_bool (h.below hx.out.2).h3 (q) (by omega) (by omega)
        cases e5
        obtain ⟨a6, e6, z6⟩ := Kd.at_bool (h.below hx.out.2).h2 (q + 1) (by omega) (by omega)
        cases e6
        obtain ⟨xb, hxb⟩ : ∃ x, rdOf false ri (q) = x := ⟨_, rfl⟩
        obtain ⟨xk, hxk⟩ : ∃ x, rdOf false bl (q + 1) = x := ⟨_, rfl⟩
        rw [hxb] at z5 ⊢
        rw [hxk] at z6 ⊢
        clear hxb hxk
        cases xb with
        | true =>
          go_enter Tryz.func79, Tryz.ntmps79
          go_wp2_with (first
            | (go_at_call 25; go_must (refine (rebusref05_Open.calls (h.below hx.out.2)).mono ?_; rintro e w3 ⟨rfl, hb3⟩; rw [ho]; have hc := cells5 (blk_below hx.out.1 hb3); have z5 := pw_cell_below hb3 z5; have z6 := pw_cell_below hb3 z6)))
          go_quiet (fail)
          go_wp2
          go_ret2
          exact ⟨rfl, by first | exact pw_below_drewN (below_step hx.out.2 hb3) _ | exact below_step hx.out.2 hb3⟩
        | false =>
          cases xk with
          | true =>
            go_enter Tryz.func79, Tryz.ntmps79
            go_wp2_with (first
              | (go_at_call 25; go_must (refine (rebusref05_Open.calls (h.below hx.out.2)).mono ?_; rintro e w3 ⟨rfl, hb3⟩; rw [ho]; have hc := cells5 (blk_below hx.out.1 hb3); have z5 := pw_cell_below hb3 z5; have z6 := pw_cell_below hb3 z6)))
            go_quiet (fail)
            go_wp2
            go_ret2
            exact ⟨rfl, by first | exact pw_below_drewN (below_step hx.out.2 hb3) _ | exact below_step hx.out.2 hb3⟩
          | false =>
            go_enter Tryz.func79, Tryz.ntmps79
            go_wp2_with (first
              | (go_at_call 25; go_must (refine (rebusref05_Open.calls (h.below hx.out.2)).mono ?_; rintro e w3 ⟨rfl, hb3⟩; rw [ho]; have hc := cells5 (blk_below hx.out.1 hb3); have z5 := pw_cell_below hb3 z5; have z6 := pw_cell_below hb3 z6)))
            go_quiet (fail)
            go_wp2
            go_ret2
            exact ⟨rfl, by first | exact pw_below_drewN (below_step hx.out.2 hb3) _ | exact below_step hx.out.2 hb3⟩
      · have tc : decide (m < W - 1) = false := decide_eq_false hc0
        rw [tc]
        go_enter Tryz.func79, Tryz.ntmps79
        go_wp2_with (first
          | (go_at_call 25; go_must (refine (rebusref05_Open.calls (h.below hx.out.2)).mono ?_; rintro e w3 ⟨rfl, hb3⟩; rw [ho]; have hc := cells5 (blk_below hx.out.1 hb3))))
        go_quiet (fail)
        go_wp2
        go_ret2
        exact ⟨rfl, by first | exact pw_below_drewN (below_step hx.out.2 hb3) _ | exact below_step hx.out.2 hb3⟩
    · rw [s1]
      clear s0 s1 s2 s3
      by_cases hc0 : d < H - 1
      · have tc : decide (d < H - 1) = true := decide_eq_true hc0
        rw [tc]
        have kj : q + W < n := k2 (by omega)
        obtain ⟨a5, e5, z5⟩ := Kd.at_bool (h.below hx.out.2).h4 (q) (by omega) (by omega)
        cases e5
        obtain ⟨a6, e6, z6⟩ := Kd.at_bool (h.below hx.out.2).h2 (q + W) (by omega) (by omega)
        cases e6
        obtain ⟨xb, hxb⟩ : ∃ x, rdOf false be (q) = x := ⟨_, rfl⟩
        obtain ⟨xk, hxk⟩ : ∃ x, rdOf false bl (q + W) = x := ⟨_, rfl⟩
        rw [hxb] at z5 ⊢
        rw [hxk] at z6 ⊢
        clear hxb hxk
        cases xb with
        | true =>
          go_enter Tryz.func79, Tryz.ntmps79
          go_wp2_with (first
            | (go_at_call 25; go_must (refine (rebusref05_Open.calls (h.below hx.out.2)).mono ?_; rintro e w3 ⟨rfl, hb3⟩; rw [ho]; have hc := cells5 (blk_below hx.out.1 hb3); have z5 := pw_cell_below hb3 z5; have z6 := pw_cell_below hb3 z6)))
          go_quiet (fail)
          go_wp2
          go_ret2
          exact ⟨rfl, by first | exact pw_below_drewN (below_step hx.out.2 hb3) _ | exact below_step hx.out.2 hb3⟩
        | false =>
          cases xk with
          | true =>
            go_enter Tryz.func79, Tryz.ntmps79
            go_wp2_with (first
              | (go_at_call 25; go_must (refine (rebusref05_Open.calls (h.below hx.out.2)).mono ?_; rintro e w3 ⟨rfl, hb3⟩; rw [ho]; have hc := cells5 (blk_below hx.out.1 hb3); have z5 := pw_cell_below hb3 z5; have z6 := pw_cell_below hb3 z6)))
            go_quiet (fail)
            go_wp2
            go_ret2
            exact ⟨rfl, by first | exact pw_below_drewN (below_step hx.out.2 hb3) _ | exact below_step hx.out.2 hb3⟩
          | false =>
            go_enter Tryz.func79, Tryz.ntmps79
            go_wp2_with (first
              | (go_at_call 25; go_must (refine (rebusref05_Open.calls (h.below hx.out.2)).mono ?_; rintro e w3 ⟨rfl, hb3⟩; rw [ho]; have hc := cells5 (blk_below hx.out.1 hb3); have z5 := pw_cell_below hb3 z5; have z6 := pw_cell_below hb3 z6)))
            go_quiet (fail)
            go_wp2
            go_ret2
            exact ⟨rfl, by first | exact pw_below_drewN (below_step hx.out.2 hb3) _ | exact below_step hx.out.2 hb3⟩
      · have tc : decide (d < H - 1) = false := decide_eq_false hc0
        rw [tc]
        go_enter Tryz.func79, Tryz.ntmps79
        go_wp2_with (first
          | (go_at_call 25; go_must (refine (rebusref05_Open.calls (h.below hx.out.2)).mono ?_; rintro e w3 ⟨rfl, hb3⟩; rw [ho]; have hc := cells5 (blk_below hx.out.1 hb3))))
        go_quiet (fail)
        go_wp2
        go_ret2
        exact ⟨rfl, by first | exact pw_below_drewN (below_step hx.out.2 hb3) _ | exact below_step hx.out.2 hb3⟩
    · rw [s2]
      clear s0 s1 s2 s3
      by_cases hc0 : 0 < m
      · have tc : decide (0 < m) = true := decide_eq_true hc0
        rw [tc]
        obtain ⟨p, hp⟩ : ∃ p, q - 1 = p := ⟨_, rfl⟩
        have k3 := k3 (by omega)
        rw [hp] at k3 ⊢
        have kj : 0 ≤ p := k3
        obtain ⟨a5, e5, z5⟩ := Kd.at_bool (h.below hx.out.2).h3 (p) (by omega) (by omega)
        cases e5
        obtain ⟨a6, e6, z6⟩ := Kd.at_bool (h.below hx.out.2).h2 (p) (by omega) (by omega)
        cases e6
        obtain ⟨xb, hxb⟩ : ∃ x, rdOf false ri (p) = x := ⟨_, rfl⟩
        obtain ⟨xk, hxk⟩ : ∃ x, rdOf false bl (p) = x := ⟨_, rfl⟩
        rw [hxb] at z5 ⊢
        rw [hxk] at z6 ⊢
        clear hxb hxk
        cases xb with
        | true =>
          go_enter Tryz.func79, Tryz.ntmps79
          go_wp2_with (first
            | (go_at_call 25; go_must (refine (rebusref05_Open.calls (h.below hx.out.2)).mono ?_; rintro e w3 ⟨rfl, hb3⟩; rw [ho]; have hc := cells5 (blk_below hx.out.1 hb3); have z5 := pw_cell_below hb3 z5; have z6 := pw_cell_below hb3 z6)))
          go_quiet (fail)
          go_wp2
          go_ret2
          exact ⟨rfl, by first | exact pw_below_drewN (below_step hx.out.2 hb3) _ | exact below_step hx.out.2 hb3⟩
        | false =>
          cases xk with
          | true =>
            go_enter Tryz.func79, Tryz.ntmps79
            go_wp2_with (first
              | (go_at_call 25; go_must (refine (rebusref05_Open.calls (h.below hx.out.2)).mono ?_; rintro e w3 ⟨rfl, hb3⟩; rw [ho]; have hc := cells5 (blk_below hx.out.1 hb3); have z5 := pw_cell_below hb3 z5; have z6 := pw_cell_below hb3 z6)))
            go_quiet (fail)
            go_wp2
            go_ret2
            exact ⟨rfl, by first | exact pw_below_drewN (below_step hx.out.2 hb3) _ | exact below_step hx.out.2 hb3⟩
          | false =>
            go_enter Tryz.func79, Tryz.ntmps79
            go_wp2_with (first
              | (go_at_call 25; go_must (refine (rebusref05_Open.calls (h.below hx.out.2)).mono ?_; rintro e w3 ⟨rfl, hb3⟩; rw [ho]; have hc := cells5 (blk_below hx.out.1 hb3); have z5 := pw_cell_below hb3 z5; have z6 := pw_cell_below hb3 z6)))
            go_quiet (fail)
            go_wp2
            go_ret2
            exact ⟨rfl, by first | exact pw_below_drewN (below_step hx.out.2 hb3) _ | exact below_step hx.out.2 hb3⟩
      · have tc : decide (0 < m) = false := decide_eq_false hc0
        rw [tc]
        go_enter Tryz.func79, Tryz.ntmps79
        go_wp2_with (first
          | (go_at_call 25; go_must (refine (rebusref05_Open.calls (h.below hx.out.2)).mono ?_; rintro e w3 ⟨rfl, hb3⟩; rw [ho]; have hc := cells5 (blk_below hx.out.1 hb3))))
        go_quiet (fail)
        go_wp2
        go_ret2
        exact ⟨rfl, by first | exact pw_below_drewN (below_step hx.out.2 hb3) _ | exact below_step hx.out.2 hb3⟩
    · rw [s3]
      clear s0 s1 s2 s3
      by_cases hc0 : 0 < d
      · have tc : decide (0 < d) = true := decide_eq_true hc0
        rw [tc]
        have kj : 0 ≤ q - W := k4 (by omega)
        obtain ⟨a5, e5, z5⟩ := Kd.at_bool (h.below hx.out.2).h4 (q - W) (by omega) (by omega)
        cases e5
        obtain ⟨a6, e6, z6⟩ := Kd.at_bool (h.below hx.out.2).h2 (q - W) (by omega) (by omega)
        cases e6
        obtain ⟨xb, hxb⟩ : ∃ x, rdOf false be (q - W) = x := ⟨_, rfl⟩
        obtain ⟨xk, hxk⟩ : ∃ x, rdOf false bl (q - W) = x := ⟨_, rfl⟩
        rw [hxb] at z5 ⊢
        rw [hxk] at z6 ⊢
        clear hxb hxk
        cases xb with
        | true =>
          go_enter Tryz.func79, Tryz.ntmps79
          go_wp2_with (first
            | (go_at_call 25; go_must (refine (rebusref05_Open.calls (h.below hx.out.2)).mono ?_; rintro e w3 ⟨rfl, hb3⟩; rw [ho]; have hc := cells5 (blk_below hx.out.1 hb3); have z5 := pw_cell_below hb3 z5; have z6 := pw_cell_below hb3 z6)))
          go_quiet (fail)
          go_wp2
          go_ret2
          exact ⟨rfl, by first | exact pw_below_drewN (below_step hx.out.2 hb3) _ | exact below_step hx.out.2 hb3⟩
        | false =>
          cases xk with
          | true =>
            go_enter Tryz.func79, Tryz.ntmps79
            go_wp2_with (first
              | (go_at_call 25; go_must (refine (rebusref05_Open.calls (h.below hx.out.2)).mono ?_; rintro e w3 ⟨rfl, hb3⟩; rw [ho]; have hc := cells5 (blk_below hx.out.1 hb3); have z5 := pw_cell_below hb3 z5; have z6 := pw_cell_below hb3 z6)))
            go_quiet (fail)
            go_wp2
            go_ret2
            exact ⟨rfl, by first | exact pw_below_drewN (below_step hx.out.2 hb3) _ | exact below_step hx.out.2 hb3⟩
          | false =>
            go_enter Tryz.func79, Tryz.ntmps79
            go_wp2_with (first
              | (go_at_call 25; go_must (refine (rebusref05_Open.calls (h.below hx.out.2)).mono ?_; rintro e w3 ⟨rfl, hb3⟩; rw [ho]; have hc := cells5 (blk_below hx.out.1 hb3); have z5 := pw_cell_below hb3 z5; have z6 := pw_cell_below hb3 z6)))
            go_quiet (fail)
            go_wp2
            go_ret2
            exact ⟨rfl, by first | exact pw_below_drewN (below_step hx.out.2 hb3) _ | exact below_step hx.out.2 hb3⟩
      · have tc : decide (0 < d) = false := decide_eq_false hc0
        rw [tc]
        go_enter Tryz.func79, Tryz.ntmps79
        go_wp2_with (first
          | (go_at_call 25; go_must (refine (rebusref05_Open.calls (h.below hx.out.2)).mono ?_; rintro e w3 ⟨rfl, hb3⟩; rw [ho]; have hc := cells5 (blk_below hx.out.1 hb3))))
        go_quiet (fail)
        go_wp2
        go_ret2
        exact ⟨rfl, by first | exact pw_below_drewN (below_step hx.out.2 hb3) _ | exact below_step hx.out.2 hb3⟩
end Go.Proofs.YtiipailmldbpbaaGreatDoor.Q
end
section
namespace Go.Proofs.YtiipailmldbpbaaGreatDoor.Q
open Go.RowKit Go.Proofs.YtiipailmldbpbaaGreatDoorW.PrintWords Go.Proofs.YtiipailmldbpbaaGreatDoorW.PrintLast Go.Proofs.YtiipailmldbpbaaGreatDoorW.PrintMore
set_option linter.unusedVariables false
set_option linter.unusedSimpArgs false
open Go.Proofs.YtiipailmldbpbaaGreatDoorS
theorem gcheck_dims {H W : Int} {bl ri be : List Bool} (hc : gcheck H W bl ri be = 0) : 1 ≤ W ∧ (bl.length : Int) = H * W := by
  unfold gcheck at hc
  split at hc
  · cases hc
  · rename_i h1
    split at hc
    · cases hc
    · rename_i h2
      simp only [Bool.not_eq_false, gsides, gsizes, Bool.and_eq_true, decide_eq_true_eq] at h1 h2
      exact ⟨h1.2.1, h2.1⟩
theorem gStep_open {H W : Int} {bl ri be : List Bool} (hc : gcheck H W bl ri be = 0) {i way : Int} (h : (gStep H W bl ri be i way).2 = true) : gopen bl i = true ∧ gopen bl (gStep H W bl ri be i way).1 = true := by
  unfold gStep at h ⊢
  cases ho : gopen bl i with
  | false => rw [ho] at h; cases h
  | true =>
    rw [ho] at h
    simp only [if_true] at h ⊢
    obtain ⟨h1, h2, h3⟩ := gstep_to (gcheck_dims hc).1 (gcheck_dims hc).2 h
    refine ⟨trivial, ?_⟩
    unfold gopen
    rw [h3, decide_eq_true ⟨h1, h2⟩]
    rfl
structure Rsheet (bl : List Bool) (cells sc : List ByteArray) (ss : List Bool) (at_ : Int) : Prop where
  l : sc.length = cells.length
  m : ss.length = cells.length
  b : cells.length = bl.length
  good : ∀ j : Nat, j < sc.length → pbad1 bl sc j = false
  sure : ∀ j : Nat, j < sc.length → (rdOf ByteArray.empty sc (j : Int)).toList = [] → rdOf false ss (j : Int) = false
  open_ : gopen bl at_ = true
theorem rdOf_set {α : Type} (d : α) (l : List α) (i : Nat) (x : α) (j : Nat) (hi : i < l.length) : rdOf d (l.set i x) (j : Int) = if i = j then x else rdOf d l (j : Int) := by
  unfold rdOf
  rw [Int.toNat_natCast, List.getD_eq_getElem?_getD, List.getD_eq_getElem?_getD, List.getElem?_set]
  by_cases h : i = j
  · rw [if_pos h, if_pos h, if_pos hi]; rfl
  · rw [if_neg h, if_neg h]
theorem pbad1_letter {bl : List Bool} {sc : List ByteArray} {j : Nat} (h : pbad1 bl sc j = false) : (rdOf ByteArray.empty sc (j : Int)).toList = [] ∨ (rdOf false bl (j : Int) = false ∧ uletter (rdOf ByteArray.empty sc (j : Int)) = true) := by
  unfold pbad1 at h
  by_cases e : (rdOf ByteArray.empty sc (j : Int)).toList = []
  · exact .inl e
  · rw [toList_nil.2 e] at h
    right
    simpa using h
theorem pbad1_of {bl : List Bool} {sc : List ByteArray} {j : Nat} (h : (rdOf ByteArray.empty sc (j : Int)).toList = [] ∨ (rdOf false bl (j : Int) = false ∧ uletter (rdOf ByteArray.empty sc (j : Int)) = true)) : pbad1 bl sc j = false := by
  unfold pbad1
  rcases h with e | ⟨e1, e2⟩
  · rw [e]; rfl
  · rw [e1, e2]; simp
theorem gopen_rd {bl : List Bool} {i : Int} (h : gopen bl i = true) : 0 ≤ i ∧ i < bl.length ∧ rdOf false bl i = false := by
  unfold gopen at h
  simp only [Bool.and_eq_true, decide_eq_true_eq, Bool.not_eq_true'] at h
  exact ⟨h.1.1, h.1.2, h.2⟩
theorem Rsheet.put {bl : List Bool} {cells sc : List ByteArray} {ss : List Bool} {at_ i at2 : Int} (h : Rsheet bl cells sc ss at_) (hi : gopen bl i = true) (h2 : gopen bl at2 = true) (x : ByteArray) (b : Bool) (hx : (x.toList = [] ∧ b = false) ∨ uletter x = true) (hne : uletter x = true → x.toList ≠ []) : Rsheet bl cells (sc.set i.toNat x) (ss.set i.toNat b) at2 := by
  obtain ⟨hi0, hi1, hib⟩ := gopen_rd hi
  have e : ((i.toNat : Nat) : Int) = i := by omega
  have hl : i.toNat < sc.length := by have := h.l; have := h.b; omega
  have hm : i.toNat < ss.length := by have := h.m; have := h.b; omega
  refine ⟨by rw [List.length_set]; exact h.l, by rw [List.length_set]; exact h.m, h.b, fun j hj => ?_, fun j hj => ?_, h2⟩
  · rw [List.length_set] at hj
    apply pbad1_of
    rw [rdOf_set _ _ _ _ _ hl]
    by_cases hij : i.toNat = j
    · rw [if_pos hij, ← hij, e]
      rcases hx with hx | hx
      · exact .inl hx.1
      · exact .inr ⟨hib, hx⟩
    · rw [if_neg hij]
      exact pbad1_letter (h.good j hj)
  · rw [List.length_set] at hj
    rw [rdOf_set _ _ _ _ _ hl, rdOf_set _ _ _ _ _ hm]
    by_cases hij : i.toNat = j
    · rw [if_pos hij, if_pos hij]
      intro h0
      rcases hx with hx | hx
      · exact hx.2
      · exact absurd h0 (hne hx)
    · rw [if_neg hij, if_neg hij]
      exact h.sure j hj
end Go.Proofs.YtiipailmldbpbaaGreatDoor.Q
end
