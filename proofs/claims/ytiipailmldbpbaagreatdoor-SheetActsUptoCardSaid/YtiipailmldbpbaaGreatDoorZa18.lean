/- PART 18 OF A PROOF: Lean functions, and that the program computes them; written by hand and by a program. Not trusted: Lean checks it. -/
import Derived.Test.YtiipailmldbpbaaGreatDoorZa11
import Derived.Test.YtiipailmldbpbaaGreatDoorZa14
import Derived.Test.YtiipailmldbpbaaGreatDoorZa17
set_option linter.unusedVariables false
set_option linter.unusedSimpArgs false
section
namespace Go.Proofs.YtiipailmldbpbaaGreatDoor.Q
open Go.RowKit Go.Proofs.YtiipailmldbpbaaGreatDoorW.PrintWords Go.Proofs.YtiipailmldbpbaaGreatDoorW.PrintLast Go.Proofs.YtiipailmldbpbaaGreatDoorW.PrintMore
set_option linter.unusedVariables false
set_option linter.unusedSimpArgs false
open Go.Proofs.YtiipailmldbpbaaGreatDoorS
set_option maxHeartbeats 8000000 in
set_option maxRecDepth 1000000 in
theorem rebusref01_SameTexts.calls {A B : Option Addr} {c d : Nat} {l : List ByteArray} {w : World} (hl : l.length ≤ 1048576) (ha : Kd.C Kd.string w A l.length l) (hb : Kd.C Kd.string w B l.length l) :
    Calls Tryz.prog 26 #[.slice A l.length c, .slice B l.length d] w fun e w' => e = .returned (.bool true) ∧ Below w.heap.size w w' := by
  have t0 : ((l.length : Int) != (l.length : Int)) = false := by simp
  go_enter Tryz.func26, Tryz.ntmps26
  go_wp2
  go_loopw [5] (fun v5 wr => ∃ (i : Nat) (q : Int), v5 = .int .i64 q ∧ Hid (q = i ∧ i ≤ l.length) ∧ Hid (Below w.heap.size w wr)) (fun v5 _ => l.length - (intOf v5).toNat)
  case atStart => exact ⟨0, 0, rfl, Lib.hid ⟨rfl, Nat.zero_le _⟩, Lib.hid (Below.refl _ _)⟩
  case round =>
    obtain ⟨i, q, rfl, hq, hB⟩ := hrel
    by_cases hlt : i < l.length
    · have hq0 : 0 ≤ q := by have := hq.out; omega
      have hq1 : q < (l.length : Int) := by have := hq.out; omega
      have hq3 : q < 1048576 := by omega
      obtain ⟨ad, eA, z0⟩ := Kd.at_string (Kd.C_below ha hB.out) q hq0 hq1
      obtain ⟨ad2, eA2, z1⟩ := Kd.at_string (Kd.C_below hb hB.out) q hq0 hq1
      cases eA
      cases eA2
      obtain ⟨x, hx⟩ : ∃ x, rdOf ByteArray.empty l q = x := ⟨_, rfl⟩
      rw [hx] at z0 z1
      replace hlt := Lib.hid hlt
      clear hx
      go_wp2
      go_quiet (fail)
      go_wp2
      refine ⟨⟨i + 1, q + 1, rfl, Lib.hid ⟨by have := hq.out; omega, hlt.out⟩, Lib.hid (pw_below_drewN hB.out _)⟩, ?_⟩
      simp only [intOf]; have := hq.out; have := hlt.out; omega
    · have hge : ¬ q < (l.length : Int) := by have := hq.out; omega
      go_wp2
      go_ret
      exact ⟨rfl, hB.out⟩
set_option maxHeartbeats 8000000 in
set_option maxRecDepth 1000000 in
theorem rebusref23_Same.calls {A B A2 B2 : Option Addr} {c d c2 d2 : Nat} {l : List ByteArray} {b : List Bool} {at_ : Int} {dn : Bool} {w : World} (hl : l.length ≤ 1048576) (hm : b.length ≤ 1048576) (h1 : ShtR A c l B d b w) (h2 : ShtR A2 c2 l B2 d2 b w) :
    Calls Tryz.prog 9 #[.agg #[.slice A l.length c, .slice B b.length d, .int .i64 at_, .bool dn], .agg #[.slice A2 l.length c2, .slice B2 b.length d2, .int .i64 at_, .bool dn]] w fun e w' => e = .returned (.bool true) ∧ Below w.heap.size w w' := by
  have hx := box2 w (.cells #[.slice A l.length c, .slice B b.length d, .int .i64 at_, .bool dn] 29) (.cells #[.slice A2 l.length c2, .slice B2 b.length d2, .int .i64 at_, .bool dn] 29)
  replace hx := Lib.hid hx
  have hu30 := Tryz.underlying29
  have t0 : ((b.length : Int) != (b.length : Int)) = false := by simp
  have t1 : (at_ != at_) = false := by simp
  have t2 : (dn != dn) = false := by simp
  have t3 : (dn == dn) = true := by simp
  go_enter Tryz.func9, Tryz.ntmps9
  go_wp2_with (first
    | (go_at_call 26; go_must (refine (rebusref01_SameTexts.calls hl (h1.below hx.out.2.2).r7 (h2.below hx.out.2.2).r7).mono ?_; rintro e w3 ⟨rfl, hb3⟩; have hB3 := Lib.hid (below_step hx.out.2.2 hb3); have bP := Lib.hid (blk_below hx.out.1 hb3); have bS := Lib.hid (blk_below hx.out.2.1 hb3); have p3 := cells4 bP.out; have q3 := cells4 bS.out; clear hb3)))
  go_loopw [5] (fun v5 wr => ∃ (i : Nat) (q : Int), v5 = .int .i64 q ∧ Hid (q = i ∧ i ≤ b.length) ∧ Hid (wr.heap[w.heap.size]? = some (.cells #[.slice A l.length c, .slice B b.length d, .int .i64 at_, .bool dn] 29 (0, 0))) ∧ Hid (wr.heap[w.heap.size + 1]? = some (.cells #[.slice A2 l.length c2, .slice B2 b.length d2, .int .i64 at_, .bool dn] 29 (0, 0))) ∧ Hid (Below w.heap.size w wr)) (fun v5 _ => b.length - (intOf v5).toNat)
  case atStart => exact ⟨0, 0, rfl, Lib.hid ⟨rfl, Nat.zero_le _⟩, bP, bS, hB3⟩
  case round =>
    clear hB3 bP bS p3 q3
    obtain ⟨i, q, rfl, hq, bP, bS, hB⟩ := hrel
    have p4 := cells4 bP.out
    have q4 := cells4 bS.out
    by_cases hlt : i < b.length
    · have hq0 : 0 ≤ q := by have := hq.out; omega
      have hq1 : q < (b.length : Int) := by have := hq.out; omega
      have hq3 : q < 1048576 := by omega
      obtain ⟨ad, eA, z0⟩ := Kd.at_bool (h1.below hB.out).r8 q hq0 hq1
      obtain ⟨ad2, eA2, z1⟩ := Kd.at_bool (h2.below hB.out).r8 q hq0 hq1
      cases eA
      cases eA2
      obtain ⟨x, hx⟩ : ∃ x, rdOf false b q = x := ⟨_, rfl⟩
      rw [hx] at z0 z1
      have t4 : (x != x) = false := by simp
      replace hlt := Lib.hid hlt
      clear hx
      go_wp2
      go_quiet (fail)
      go_wp2
      refine ⟨⟨i + 1, q + 1, rfl, Lib.hid ⟨by have := hq.out; omega, hlt.out⟩, Lib.hid (blk_drewN bP.out _), Lib.hid (blk_drewN bS.out _), Lib.hid (pw_below_drewN hB.out _)⟩, ?_⟩
      simp only [intOf]; have := hq.out; have := hlt.out; omega
    · have hge : ¬ q < (b.length : Int) := by have := hq.out; omega
      go_wp2
      go_ret
      exact ⟨rfl, hB.out⟩
end Go.Proofs.YtiipailmldbpbaaGreatDoor.Q
end
section
namespace Go.Proofs.YtiipailmldbpbaaGreatDoor.Q
open Go.RowKit Go.Proofs.YtiipailmldbpbaaGreatDoorW.PrintWords Go.Proofs.YtiipailmldbpbaaGreatDoorW.PrintLast Go.Proofs.YtiipailmldbpbaaGreatDoorW.PrintMore
set_option linter.unusedVariables false
set_option linter.unusedSimpArgs false
open Go.Proofs.YtiipailmldbpbaaGreatDoorS
structure GridS (bl ri be : List Bool) : Prop where
  b : bl.length ≤ 1048576
  r : ri.length ≤ 1048576
  e : be.length ≤ 1048576
set_option maxHeartbeats 8000000 in
set_option maxRecDepth 1000000 in
theorem rebusref05_sameBools.calls {A B : Option Addr} {c d : Nat} {l : List Bool} {w : World} (hl : l.length ≤ 1048576) (ha : Kd.C Kd.bool w A l.length l) (hb : Kd.C Kd.bool w B l.length l) :
    Calls Tryz.prog 53 #[.slice A l.length c, .slice B l.length d] w fun e w' => e = .returned (.bool true) ∧ Below w.heap.size w w' := by
  have t0 : ((l.length : Int) != (l.length : Int)) = false := by simp
  go_enter Tryz.func53, Tryz.ntmps53
  go_wp2
  go_loopw [5] (fun v5 wr => ∃ (i : Nat) (q : Int), v5 = .int .i64 q ∧ Hid (q = i ∧ i ≤ l.length) ∧ Hid (Below w.heap.size w wr)) (fun v5 _ => l.length - (intOf v5).toNat)
  case atStart => exact ⟨0, 0, rfl, Lib.hid ⟨rfl, Nat.zero_le _⟩, Lib.hid (Below.refl _ _)⟩
  case round =>
    obtain ⟨i, q, rfl, hq, hB⟩ := hrel
    by_cases hlt : i < l.length
    · have hq0 : 0 ≤ q := by have := hq.out; omega
      have hq1 : q < (l.length : Int) := by have := hq.out; omega
      have hq3 : q < 1048576 := by omega
      obtain ⟨ad, eA, z0⟩ := Kd.at_bool (Kd.C_below ha hB.out) q hq0 hq1
      obtain ⟨ad2, eA2, z1⟩ := Kd.at_bool (Kd.C_below hb hB.out) q hq0 hq1
      cases eA
      cases eA2
      obtain ⟨x, hx⟩ : ∃ x, rdOf false l q = x := ⟨_, rfl⟩
      rw [hx] at z0 z1
      have t4 : (x != x) = false := by simp
      replace hlt := Lib.hid hlt
      clear hx
      go_wp2
      go_quiet (fail)
      go_wp2
      refine ⟨⟨i + 1, q + 1, rfl, Lib.hid ⟨by have := hq.out; omega, hlt.out⟩, Lib.hid (pw_below_drewN hB.out _)⟩, ?_⟩
      simp only [intOf]; have := hq.out; have := hlt.out; omega
    · have hge : ¬ q < (l.length : Int) := by have := hq.out; omega
      go_wp2
      go_ret
      exact ⟨rfl, hB.out⟩
set_option maxHeartbeats 8000000 in
set_option maxRecDepth 1000000 in
theorem rebusref05_Same.calls {H W : Int} {A2 : Option Addr} {c2 : Nat} {bl : List Bool} {A3 : Option Addr} {c3 : Nat} {ri : List Bool} {A4 : Option Addr} {c4 : Nat} {be : List Bool} {B2 : Option Addr} {b2 : Nat} {B3 : Option Addr} {b3 : Nat} {B4 : Option Addr} {b4 : Nat} {w : World} (hs : GridS bl ri be) (h1 : GridC A2 c2 bl A3 c3 ri A4 c4 be w) (h2 : GridC B2 b2 bl B3 b3 ri B4 b4 be w) :
    Calls Tryz.prog 27 #[.agg #[.int .i64 H, .int .i64 W, .slice A2 bl.length c2, .slice A3 ri.length c3, .slice A4 be.length c4], .agg #[.int .i64 H, .int .i64 W, .slice B2 bl.length b2, .slice B3 ri.length b3, .slice B4 be.length b4]] w fun e w' => e = .returned (.bool true) ∧ Below w.heap.size w w' := by
  have hx := box2 w (.cells #[.int .i64 H, .int .i64 W, .slice A2 bl.length c2, .slice A3 ri.length c3, .slice A4 be.length c4] 24) (.cells #[.int .i64 H, .int .i64 W, .slice B2 bl.length b2, .slice B3 ri.length b3, .slice B4 be.length b4] 24)
  have p1 := cells5 hx.1
  have q1 := cells5 hx.2.1
  replace hx := Lib.hid hx
  have hu24 := Tryz.underlying24
  have e1 : (H == H) = true := by simp
  have e2 : (W == W) = true := by simp
  have tok1 : True := trivial
  have tok2 : True := trivial
  have tok3 : True := trivial
  go_enter Tryz.func27, Tryz.ntmps27
  go_wp2_with (first
    | (go_at_call 53; have tq := tok1; go_must (clear tq tok1; refine (rebusref05_sameBools.calls hs.b (h1.below hx.out.2.2).h2 (h2.below hx.out.2.2).h2).mono ?_; rintro e w3 ⟨rfl, hb⟩; have hB3 := Lib.hid (below_step hx.out.2.2 hb); have bP3 := Lib.hid (blk_below hx.out.1 hb); have bQ3 := Lib.hid (blk_below hx.out.2.1 hb); have p3 := cells5 bP3.out; have q3 := cells5 bQ3.out; clear p1 q1; clear hb))
    | (go_at_call 53; have tq := tok2; go_must (clear tq tok2; refine (rebusref05_sameBools.calls hs.r (h1.below hB3.out).h3 (h2.below hB3.out).h3).mono ?_; rintro e w4 ⟨rfl, hb⟩; have hB4 := Lib.hid (below_step hB3.out hb); have bP4 := Lib.hid (blk_below bP3.out hb); have bQ4 := Lib.hid (blk_below bQ3.out hb); have p4 := cells5 bP4.out; have q4 := cells5 bQ4.out; clear p3 q3; clear hb))
    | (go_at_call 53; have tq := tok3; go_must (clear tq tok3; refine (rebusref05_sameBools.calls hs.e (h1.below hB4.out).h4 (h2.below hB4.out).h4).mono ?_; rintro e w5 ⟨rfl, hb⟩; have hB5 := Lib.hid (below_step hB4.out hb); clear p4 q4; clear hb)))
  go_ret
  exact ⟨rfl, hB5.out⟩
set_option maxHeartbeats 8000000 in
set_option maxRecDepth 1000000 in
theorem rebusref21_Same.calls {title : ByteArray} {H W : Int} {A2 : Option Addr} {c2 : Nat} {bl : List Bool} {A3 : Option Addr} {c3 : Nat} {ri : List Bool} {A4 : Option Addr} {c4 : Nat} {be : List Bool} {B2 : Option Addr} {b2 : Nat} {B3 : Option Addr} {b3 : Nat} {B4 : Option Addr} {b4 : Nat} {A5 : Option Addr} {c5 : Nat} {cells : List ByteArray} {A6 : Option Addr} {c6 : Nat} {clues : List ByteArray} {B5 : Option Addr} {b5 : Nat} {B6 : Option Addr} {b6 : Nat} {w : World} (hs : GridS bl ri be) (hz : PuzS title cells clues) (h1 : PuzR A2 c2 bl A3 c3 ri A4 c4 be A5 c5 cells A6 c6 clues w) (h2 : PuzR B2 b2 bl B3 b3 ri B4 b4 be B5 b5 cells B6 b6 clues w) :
    Calls Tryz.prog 10 #[.agg #[.string title, .int .i64 H, .int .i64 W, .slice A2 bl.length c2, .slice A3 ri.length c3, .slice A4 be.length c4, .slice A5 cells.length c5, .slice A6 clues.length c6], .agg #[.string title, .int .i64 H, .int .i64 W, .slice B2 bl.length b2, .slice B3 ri.length b3, .slice B4 be.length b4, .slice B5 cells.length b5, .slice B6 clues.length b6]] w fun e w' => e = .returned (.bool true) ∧ Below w.heap.size w w' := by
  have hx := box2 w (.cells #[.string title, .int .i64 H, .int .i64 W, .slice A2 bl.length c2, .slice A3 ri.length c3, .slice A4 be.length c4, .slice A5 cells.length c5, .slice A6 clues.length c6] 27) (.cells #[.string title, .int .i64 H, .int .i64 W, .slice B2 bl.length b2, .slice B3 ri.length b3, .slice B4 be.length b4, .slice B5 cells.length b5, .slice B6 clues.length b6] 27)
  have p1 := cells8 hx.1
  have q1 := cells8 hx.2.1
  replace hx := Lib.hid hx
  have hu27 := Tryz.underlying27
  have hu24 := Tryz.underlying24
  have e1 : (title.toList == title.toList) = true := by simp
  have tok1 : True := trivial
  have tok2 : True := trivial
  go_enter Tryz.func10, Tryz.ntmps10
  go_wp2_with (first
    | (go_at_call 27; go_must (refine (rebusref05_Same.calls hs (h1.below hx.out.2.2).gridC (h2.below hx.out.2.2).gridC).mono ?_; rintro e w3 ⟨rfl, hb⟩; have hB3 := Lib.hid (below_step hx.out.2.2 hb); have bP3 := Lib.hid (blk_below hx.out.1 hb); have bQ3 := Lib.hid (blk_below hx.out.2.1 hb); have p3 := cells8 bP3.out; have q3 := cells8 bQ3.out; clear p1 q1; clear hb))
    | (go_at_call 26; have tq := tok1; go_must (clear tq tok1; refine (rebusref01_SameTexts.calls hz.l (h1.below hB3.out).r5 (h2.below hB3.out).r5).mono ?_; rintro e w4 ⟨rfl, hb⟩; have hB4 := Lib.hid (below_step hB3.out hb); have bP4 := Lib.hid (blk_below bP3.out hb); have bQ4 := Lib.hid (blk_below bQ3.out hb); have p4 := cells8 bP4.out; have q4 := cells8 bQ4.out; clear p3 q3; clear hb))
    | (go_at_call 26; have tq := tok2; go_must (clear tq tok2; refine (rebusref01_SameTexts.calls hz.m (h1.below hB4.out).r6 (h2.below hB4.out).r6).mono ?_; rintro e w5 ⟨rfl, hb⟩; have hB5 := Lib.hid (below_step hB4.out hb); clear p4 q4; clear hb)))
  go_ret
  exact ⟨rfl, hB5.out⟩
end Go.Proofs.YtiipailmldbpbaaGreatDoor.Q
end
section
namespace Go.Proofs.YtiipailmldbpbaaGreatDoor.Q
open Go.RowKit Go.Proofs.YtiipailmldbpbaaGreatDoorW.PrintWords Go.Proofs.YtiipailmldbpbaaGreatDoorW.PrintLast Go.Proofs.YtiipailmldbpbaaGreatDoorW.PrintMore
set_option linter.unusedVariables false
set_option linter.unusedSimpArgs false
open Go.Proofs.YtiipailmldbpbaaGreatDoorS
structure PuzO (A2 : Option Addr) (c2 : Nat) (bl : List Bool) (A3 : Option Addr) (c3 : Nat) (ri : List Bool) (A4 : Option Addr) (c4 : Nat) (be : List Bool) (A5 : Option Addr) (c5 : Nat) (cells : List ByteArray) (A6 : Option Addr) (c6 : Nat) (clues : List ByteArray) (base : Nat) (w : World) : Prop where
  o2 : Kd.R Kd.bool 4 w base (fun _ => True) (.slice A2 bl.length c2) bl
  o3 : Kd.R Kd.bool 4 w base (fun _ => True) (.slice A3 ri.length c3) ri
  o4 : Kd.R Kd.bool 4 w base (fun _ => True) (.slice A4 be.length c4) be
  o5 : Kd.R Kd.string 9 w base (fun _ => True) (.slice A5 cells.length c5) cells
  o6 : Kd.R Kd.string 9 w base (fun _ => True) (.slice A6 clues.length c6) clues
theorem PuzO.reads {A2 : Option Addr} {c2 : Nat} {bl : List Bool} {A3 : Option Addr} {c3 : Nat} {ri : List Bool} {A4 : Option Addr} {c4 : Nat} {be : List Bool} {A5 : Option Addr} {c5 : Nat} {cells : List ByteArray} {A6 : Option Addr} {c6 : Nat} {clues : List ByteArray} {base : Nat} {w : World} (h : PuzO A2 c2 bl A3 c3 ri A4 c4 be A5 c5 cells A6 c6 clues base w) : PuzR A2 c2 bl A3 c3 ri A4 c4 be A5 c5 cells A6 c6 clues w := by
  obtain ⟨_, _, e2, k2, C2⟩ := Kd.R_reads h.o2
  obtain ⟨_, _, e3, k3, C3⟩ := Kd.R_reads h.o3
  obtain ⟨_, _, e4, k4, C4⟩ := Kd.R_reads h.o4
  obtain ⟨_, _, e5, k5, C5⟩ := Kd.R_reads h.o5
  obtain ⟨_, _, e6, k6, C6⟩ := Kd.R_reads h.o6
  cases e2
  cases e3
  cases e4
  cases e5
  cases e6
  exact ⟨C2, k2, C3, k3, C4, k4, C5, k5, C6, k6⟩
theorem PuzO.below {A2 : Option Addr} {c2 : Nat} {bl : List Bool} {A3 : Option Addr} {c3 : Nat} {ri : List Bool} {A4 : Option Addr} {c4 : Nat} {be : List Bool} {A5 : Option Addr} {c5 : Nat} {cells : List ByteArray} {A6 : Option Addr} {c6 : Nat} {clues : List ByteArray} {base : Nat} {w w' : World} (h : PuzO A2 c2 bl A3 c3 ri A4 c4 be A5 c5 cells A6 c6 clues base w) (hb : Below w.heap.size w w') : PuzO A2 c2 bl A3 c3 ri A4 c4 be A5 c5 cells A6 c6 clues base w' := ⟨Kd.R_below h.o2 hb, Kd.R_below h.o3 hb, Kd.R_below h.o4 hb, Kd.R_below h.o5 hb, Kd.R_below h.o6 hb⟩
theorem PuzO.lower {A2 : Option Addr} {c2 : Nat} {bl : List Bool} {A3 : Option Addr} {c3 : Nat} {ri : List Bool} {A4 : Option Addr} {c4 : Nat} {be : List Bool} {A5 : Option Addr} {c5 : Nat} {cells : List ByteArray} {A6 : Option Addr} {c6 : Nat} {clues : List ByteArray} {base base' : Nat} {w : World} (h : PuzO A2 c2 bl A3 c3 ri A4 c4 be A5 c5 cells A6 c6 clues base w) (hb : base' ≤ base) : PuzO A2 c2 bl A3 c3 ri A4 c4 be A5 c5 cells A6 c6 clues base' w := ⟨Kd.R_lower h.o2 hb, Kd.R_lower h.o3 hb, Kd.R_lower h.o4 hb, Kd.R_lower h.o5 hb, Kd.R_lower h.o6 hb⟩
theorem PuzO.heap {A2 : Option Addr} {c2 : Nat} {bl : List Bool} {A3 : Option Addr} {c3 : Nat} {ri : List Bool} {A4 : Option Addr} {c4 : Nat} {be : List Bool} {A5 : Option Addr} {c5 : Nat} {cells : List ByteArray} {A6 : Option Addr} {c6 : Nat} {clues : List ByteArray} {base : Nat} {w w' : World} (h : PuzO A2 c2 bl A3 c3 ri A4 c4 be A5 c5 cells A6 c6 clues base w) {g t : Nat} {cs : Array Value} (hb : w.heap[g]? = some (.cells cs t (0, 0))) (q1 : ∀ q, q ∈ 4 :: (Kd.bool).E → q ≠ t) (q2 : ∀ q, q ∈ 9 :: (Kd.string).E → q ≠ t) (hk : ∀ k, k ≠ g → w'.heap[k]? = w.heap[k]?) : PuzO A2 c2 bl A3 c3 ri A4 c4 be A5 c5 cells A6 c6 clues base w' :=
  ⟨R_of_heap h.o2 hb q1 hk, R_of_heap h.o3 hb q1 hk, R_of_heap h.o4 hb q1 hk, R_of_heap h.o5 hb q2 hk, R_of_heap h.o6 hb q2 hk⟩
structure CpW (w wr : World) (pc tc qc : Array Value) : Prop where
  p : wr.heap[w.heap.size]? = some (.cells pc 27 (0, 0))
  t : wr.heap[w.heap.size + 1]? = some (.cells tc 27 (0, 0))
  q : wr.heap[w.heap.size + 1 + 1]? = some (.cells qc 27 (0, 0))
  b : Below w.heap.size w wr
theorem CpW.below {w wr w2 : World} {pc tc qc : Array Value} (h : CpW w wr pc tc qc) (hb : Below wr.heap.size wr w2) : CpW w w2 pc tc qc := ⟨blk_below h.p hb, blk_below h.t hb, blk_below h.q hb, below_step h.b hb⟩
theorem CpW.put {w wr w2 : World} {pc tc qc qc' : Array Value} (h : CpW w wr pc tc qc) (hf : w2.heap[w.heap.size + 1 + 1]? = some (.cells qc' 27 (0, 0)) ∧ (∀ k, k ≠ w.heap.size + 1 + 1 → w2.heap[k]? = wr.heap[k]?) ∧ ∀ B w0, Below B w0 wr → B ≤ w.heap.size + 1 + 1 → Below B w0 w2) : CpW w w2 pc tc qc' :=
  ⟨(hf.2.1 _ (by omega)).trans h.p, (hf.2.1 _ (by omega)).trans h.t, hf.1, hf.2.2 _ _ h.b (by omega)⟩
theorem frozen8 {w : World} {b t : Nat} {cs : Array Value} (h : w.heap[b]? = some (.cells cs t (0, 0))) (i : Nat) : w.frozen? ⟨b, i, none⟩ = false := blk_frozen h i
set_option maxHeartbeats 8000000 in
set_option maxRecDepth 1000000 in
theorem rebusref21_Copied.calls {title : ByteArray} {H W : Int} {A2 : Option Addr} {c2 : Nat} {bl : List Bool} {A3 : Option Addr} {c3 : Nat} {ri : List Bool} {A4 : Option Addr} {c4 : Nat} {be : List Bool} {A5 : Option Addr} {c5 : Nat} {cells : List ByteArray} {A6 : Option Addr} {c6 : Nat} {clues : List ByteArray} {w : World} (hs : GridS bl ri be) (hz : PuzS title cells clues) (hP : PuzR A2 c2 bl A3 c3 ri A4 c4 be A5 c5 cells A6 c6 clues w) :
    Calls Tryz.prog 6 #[.agg #[.string title, .int .i64 H, .int .i64 W, .slice A2 bl.length c2, .slice A3 ri.length c3, .slice A4 be.length c4, .slice A5 cells.length c5, .slice A6 clues.length c6]] w fun e w' => ∃ (B2 : Option Addr) (b2 : Nat) (B3 : Option Addr) (b3 : Nat) (B4 : Option Addr) (b4 : Nat) (B5 : Option Addr) (b5 : Nat) (B6 : Option Addr) (b6 : Nat), e = .returned (.agg #[.string title, .int .i64 H, .int .i64 W, .slice B2 bl.length b2, .slice B3 ri.length b3, .slice B4 be.length b4, .slice B5 cells.length b5, .slice B6 clues.length b6]) ∧ PuzO B2 b2 bl B3 b3 ri B4 b4 be B5 b5 cells B6 b6 clues w.heap.size w' ∧ Below w.heap.size w w' := by
  have hx := box3 w (.cells #[.string title, .int .i64 H, .int .i64 W, .slice A2 bl.length c2, .slice A3 ri.length c3, .slice A4 be.length c4, .slice A5 cells.length c5, .slice A6 clues.length c6] 27) (.cells #[.string ⟨#[]⟩, .int .i64 0, .int .i64 0, .slice none 0 0, .slice none 0 0, .slice none 0 0, .slice none 0 0, .slice none 0 0] 27) (.cells #[.string title, .int .i64 H, .int .i64 W, .slice A2 bl.length c2, .slice A3 ri.length c3, .slice A4 be.length c4, .slice A5 cells.length c5, .slice A6 clues.length c6] 27)
  have C0 := Lib.hid (CpW.mk hx.1 hx.2.1 hx.2.2.1 hx.2.2.2)
  have hu27 := Tryz.underlying27
  have hu24 := Tryz.underlying24
  have p0 := cells8 C0.out.p
  have q0 := cells8 C0.out.q
  have f0 := frozen8 C0.out.q
  clear hx
  go_enter Tryz.func6, Tryz.ntmps6
  go_wp2_with (first
    | ((with_reducible refine gate_dst (N := 5) rfl ?_); go_must (refine Kd.R_lit Kd.bool _ 4 ?hg (N := 5) ?hd (xs := ([] : List Bool)) (inner := []) (ok := fun _ => True) (okp := fun _ => True) ?hr ?hp (fun _ hk => hk) trivial (Below.refl _ _) (Nat.le_refl _) (by simp) ?_; (case hd => rfl); (case hg => rfl); (case hr => first | (go_simp; done) | (go_simp; rfl)); (case hp => exact (Reps.none _ _)); intro vl0 wl0 hol0 hbl0 hg_ hnew_; clear hg_ hnew_; have Cl0 := Lib.hid (C0.out.below hbl0); have pl0 := cells8 Cl0.out.p; have ql0 := cells8 Cl0.out.q; replace hol0 := Lib.hid hol0; replace hbl0 := Lib.hid hbl0; clear p0 q0 f0))
    | ((with_reducible refine gate_builtin (b := .append) (xs := #[.tmp 5, .tmp 8]) rfl ?_); go_must (at_builtin; refine Kd.R_append_rows Kd.bool (w0 := (((w.alloc (.cells #[.string title, .int .i64 H, .int .i64 W, .slice A2 bl.length c2, .slice A3 ri.length c3, .slice A4 be.length c4, .slice A5 cells.length c5, .slice A6 clues.length c6] 27)).alloc (.cells #[.string ⟨#[]⟩, .int .i64 0, .int .i64 0, .slice none 0 0, .slice none 0 0, .slice none 0 0, .slice none 0 0, .slice none 0 0] 27)).alloc (.cells #[.string title, .int .i64 H, .int .i64 W, .slice A2 bl.length c2, .slice A3 ri.length c3, .slice A4 be.length c4, .slice A5 cells.length c5, .slice A6 clues.length c6] 27))) (((w.alloc (.cells #[.string title, .int .i64 H, .int .i64 W, .slice A2 bl.length c2, .slice A3 ri.length c3, .slice A4 be.length c4, .slice A5 cells.length c5, .slice A6 clues.length c6] 27)).alloc (.cells #[.string ⟨#[]⟩, .int .i64 0, .int .i64 0, .slice none 0 0, .slice none 0 0, .slice none 0 0, .slice none 0 0, .slice none 0 0] 27)).alloc (.cells #[.string title, .int .i64 H, .int .i64 W, .slice A2 bl.length c2, .slice A3 ri.length c3, .slice A4 be.length c4, .slice A5 cells.length c5, .slice A6 clues.length c6] 27)).heap.size rfl (.tmp 5) (.tmp 8) 22 4 (.bool false) 1 rfl Tryz.underlying22 bool_info rfl (by decide) (by decide) vl0 ([] : List Bool) bl _ _ _ (fun _ => True) (fun _ => False) rfl rfl ?aO ?aR (fun _ _ h => h) (fun _ h => h.elim) ?aF ?aB ?aS ?aL ?_; (case aR => exact (hP.below Cl0.out.b).r2); (case aB => exact hbl0.out); (case aF => exact (fun _ _ => trivial)); (case aO => exact hol0.out); (case aS => exact hbl0.out.size); (case aL => have := hs.b; simp only [List.length_nil]; omega); intro va0 wa0 hoa0 hba0 hg_ hat_; clear hg_ hat_; rw [List.nil_append] at hoa0; obtain ⟨B2, b2, rfl⟩ := Kd.R_slice hoa0; have Ca0 := Lib.hid (C0.out.below hba0); have pa0 := cells8 Ca0.out.p; have qa0 := cells8 Ca0.out.q; have fa0 := frozen8 Ca0.out.q; replace hoa0 := Lib.hid hoa0; have hbb0 := Lib.hid hba0; clear hba0 pl0 ql0))
    | ((with_reducible refine gate_store (t := 22) (p := 11) (v := .tmp 9) rfl ?_); go_must (refine store_event (w1 := wa0.setCell ⟨w.heap.size + 1 + 1, 3, none⟩ (.slice B2 bl.length b2)) (by rfl) (by rfl) (by rfl) ?hr ?_; (case hr => first | (go_simp; done) | (go_simp; rfl)); intro wc1 hw1; have F0 := one_facts (i := 3) (cs' := #[.string title, .int .i64 H, .int .i64 W, .slice B2 bl.length b2, .slice A3 ri.length c3, .slice A4 be.length c4, .slice A5 cells.length c5, .slice A6 clues.length c6]) Ca0.out.q (.slice B2 bl.length b2) rfl; rw [← hw1] at F0; have C1 := Lib.hid (Ca0.out.put F0); have S2_1 := Lib.hid (R_of_heap (Kd.R_lower hoa0.out (below_size C0.out.b)) Ca0.out.q (by decide) F0.2.1); have p1 := cells8 C1.out.p; have q1 := cells8 C1.out.q; have f1 := frozen8 C1.out.q; clear hw1 F0 pa0 qa0 fa0))
    | ((with_reducible refine gate_dst (N := 12) rfl ?_); go_must (refine Kd.R_lit Kd.bool _ 4 ?hg (N := 12) ?hd (xs := ([] : List Bool)) (inner := []) (ok := fun _ => True) (okp := fun _ => True) ?hr ?hp (fun _ hk => hk) trivial (Below.refl _ _) (Nat.le_refl _) (by simp) ?_; (case hd => rfl); (case hg => rfl); (case hr => first | (go_simp; done) | (go_simp; rfl)); (case hp => exact (Reps.none _ _)); intro vl1 wl1 hol1 hbl1 hg_ hnew_; clear hg_ hnew_; have Cl1 := Lib.hid (C1.out.below hbl1); have pl1 := cells8 Cl1.out.p; have ql1 := cells8 Cl1.out.q; replace hol1 := Lib.hid hol1; replace hbl1 := Lib.hid hbl1; clear p1 q1 f1))
    | ((with_reducible refine gate_builtin (b := .append) (xs := #[.tmp 12, .tmp 15]) rfl ?_); go_must (at_builtin; refine Kd.R_append_rows Kd.bool (w0 := wc1) wc1.heap.size rfl (.tmp 12) (.tmp 15) 22 4 (.bool false) 1 rfl Tryz.underlying22 bool_info rfl (by decide) (by decide) vl1 ([] : List Bool) ri _ _ _ (fun _ => True) (fun _ => False) rfl rfl ?aO ?aR (fun _ _ h => h) (fun _ h => h.elim) ?aF ?aB ?aS ?aL ?_; (case aR => exact (hP.below Cl1.out.b).r3); (case aB => exact hbl1.out); (case aF => exact (fun _ _ => trivial)); (case aO => exact hol1.out); (case aS => exact hbl1.out.size); (case aL => have := hs.r; simp only [List.length_nil]; omega); intro va1 wa1 hoa1 hba1 hg_ hat_; clear hg_ hat_; rw [List.nil_append] at hoa1; obtain ⟨B3, b3, rfl⟩ := Kd.R_slice hoa1; have Ca1 := Lib.hid (C1.out.below hba1); have pa1 := cells8 Ca1.out.p; have qa1 := cells8 Ca1.out.q; have fa1 := frozen8 Ca1.out.q; replace hoa1 := Lib.hid hoa1; have hbb1 := Lib.hid hba1; clear hba1 pl1 ql1))
    | ((with_reducible refine gate_store (t := 22) (p := 18) (v := .tmp 16) rfl ?_); go_must (refine store_event (w1 := wa1.setCell ⟨w.heap.size + 1 + 1, 4, none⟩ (.slice B3 ri.length b3)) (by rfl) (by rfl) (by rfl) ?hr ?_; (case hr => first | (go_simp; done) | (go_simp; rfl)); intro wc2 hw2; have F1 := one_facts (i := 4) (cs' := #[.string title, .int .i64 H, .int .i64 W, .slice B2 bl.length b2, .slice B3 ri.length b3, .slice A4 be.length c4, .slice A5 cells.length c5, .slice A6 clues.length c6]) Ca1.out.q (.slice B3 ri.length b3) rfl; rw [← hw2] at F1; have C2 := Lib.hid (Ca1.out.put F1); have S2_2 := Lib.hid (R_of_heap (Kd.R_below S2_1.out hbb1.out) Ca1.out.q (by decide) F1.2.1); have S3_2 := Lib.hid (R_of_heap (Kd.R_lower hoa1.out (below_size C1.out.b)) Ca1.out.q (by decide) F1.2.1); have p2 := cells8 C2.out.p; have q2 := cells8 C2.out.q; have f2 := frozen8 C2.out.q; clear hw2 F1 pa1 qa1 fa1))
    | ((with_reducible refine gate_dst (N := 19) rfl ?_); go_must (refine Kd.R_lit Kd.bool _ 4 ?hg (N := 19) ?hd (xs := ([] : List Bool)) (inner := []) (ok := fun _ => True) (okp := fun _ => True) ?hr ?hp (fun _ hk => hk) trivial (Below.refl _ _) (Nat.le_refl _) (by simp) ?_; (case hd => rfl); (case hg => rfl); (case hr => first | (go_simp; done) | (go_simp; rfl)); (case hp => exact (Reps.none _ _)); intro vl2 wl2 hol2 hbl2 hg_ hnew_; clear hg_ hnew_; have Cl2 := Lib.hid (C2.out.below hbl2); have pl2 := cells8 Cl2.out.p; have ql2 := cells8 Cl2.out.q; replace hol2 := Lib.hid hol2; replace hbl2 := Lib.hid hbl2; clear p2 q2 f2))
    | ((with_reducible refine gate_builtin (b := .append) (xs := #[.tmp 19, .tmp 22]) rfl ?_); go_must (at_builtin; refine Kd.R_append_rows Kd.bool (w0 := wc2) wc2.heap.size rfl (.tmp 19) (.tmp 22) 22 4 (.bool false) 1 rfl Tryz.underlying22 bool_info rfl (by decide) (by decide) vl2 ([] : List Bool) be _ _ _ (fun _ => True) (fun _ => False) rfl rfl ?aO ?aR (fun _ _ h => h) (fun _ h => h.elim) ?aF ?aB ?aS ?aL ?_; (case aR => exact (hP.below Cl2.out.b).r4); (case aB => exact hbl2.out); (case aF => exact (fun _ _ => trivial)); (case aO => exact hol2.out); (case aS => exact hbl2.out.size); (case aL => have := hs.e; simp only [List.length_nil]; omega); intro va2 wa2 hoa2 hba2 hg_ hat_; clear hg_ hat_; rw [List.nil_append] at hoa2; obtain ⟨B4, b4, rfl⟩ := Kd.R_slice hoa2; have Ca2 := Lib.hid (C2.out.below hba2); have pa2 := cells8 Ca2.out.p; have qa2 := cells8 Ca2.out.q; have fa2 := frozen8 Ca2.out.q; replace hoa2 := Lib.hid hoa2; have hbb2 := Lib.hid hba2; clear hba2 pl2 ql2))
    | ((with_reducible refine gate_store (t := 22) (p := 25) (v := .tmp 23) rfl ?_); go_must (refine store_event (w1 := wa2.setCell ⟨w.heap.size + 1 + 1, 5, none⟩ (.slice B4 be.length b4)) (by rfl) (by rfl) (by rfl) ?hr ?_; (case hr => first | (go_simp; done) | (go_simp; rfl)); intro wc3 hw3; have F2 := one_facts (i := 5) (cs' := #[.string title, .int .i64 H, .int .i64 W, .slice B2 bl.length b2, .slice B3 ri.length b3, .slice B4 be.length b4, .slice A5 cells.length c5, .slice A6 clues.length c6]) Ca2.out.q (.slice B4 be.length b4) rfl; rw [← hw3] at F2; have C3 := Lib.hid (Ca2.out.put F2); have S2_3 := Lib.hid (R_of_heap (Kd.R_below S2_2.out hbb2.out) Ca2.out.q (by decide) F2.2.1); have S3_3 := Lib.hid (R_of_heap (Kd.R_below S3_2.out hbb2.out) Ca2.out.q (by decide) F2.2.1); have S4_3 := Lib.hid (R_of_heap (Kd.R_lower hoa2.out (below_size C2.out.b)) Ca2.out.q (by decide) F2.2.1); have p3 := cells8 C3.out.p; have q3 := cells8 C3.out.q; have f3 := frozen8 C3.out.q; clear hw3 F2 pa2 qa2 fa2))
    | ((with_reducible refine gate_dst (N := 26) rfl ?_); go_must (refine Kd.R_lit Kd.string _ 9 ?hg (N := 26) ?hd (xs := ([] : List ByteArray)) (inner := []) (ok := fun _ => True) (okp := fun _ => True) ?hr ?hp (fun _ hk => hk) trivial (Below.refl _ _) (Nat.le_refl _) (by simp) ?_; (case hd => rfl); (case hg => rfl); (case hr => first | (go_simp; done) | (go_simp; rfl)); (case hp => exact (Reps.none _ _)); intro vl3 wl3 hol3 hbl3 hg_ hnew_; clear hg_ hnew_; have Cl3 := Lib.hid (C3.out.below hbl3); have pl3 := cells8 Cl3.out.p; have ql3 := cells8 Cl3.out.q; replace hol3 := Lib.hid hol3; replace hbl3 := Lib.hid hbl3; clear p3 q3 f3))
    | ((with_reducible refine gate_builtin (b := .append) (xs := #[.tmp 26, .tmp 28]) rfl ?_); go_must (at_builtin; refine Kd.R_append_rows Kd.string (w0 := wc3) wc3.heap.size rfl (.tmp 26) (.tmp 28) 25 9 (.string ⟨#[]⟩) 16 rfl Tryz.underlying25 str_info rfl (by decide) (by decide) vl3 ([] : List ByteArray) cells _ _ _ (fun _ => True) (fun _ => False) rfl rfl ?aO ?aR (fun _ _ h => h) (fun _ h => h.elim) ?aF ?aB ?aS ?aL ?_; (case aR => exact (hP.below Cl3.out.b).r5); (case aB => exact hbl3.out); (case aF => exact (fun _ _ => trivial)); (case aO => exact hol3.out); (case aS => exact hbl3.out.size); (case aL => have := hz.l; simp only [List.length_nil]; omega); intro va3 wa3 hoa3 hba3 hg_ hat_; clear hg_ hat_; rw [List.nil_append] at hoa3; obtain ⟨B5, b5, rfl⟩ := Kd.R_slice hoa3; have Ca3 := Lib.hid (C3.out.below hba3); have pa3 := cells8 Ca3.out.p; have qa3 := cells8 Ca3.out.q; have fa3 := frozen8 Ca3.out.q; replace hoa3 := Lib.hid hoa3; have hbb3 := Lib.hid hba3; clear hba3 pl3 ql3))
    | ((with_reducible refine gate_store (t := 25) (p := 30) (v := .tmp 29) rfl ?_); go_must (refine store_event (w1 := wa3.setCell ⟨w.heap.size + 1 + 1, 6, none⟩ (.slice B5 cells.length b5)) (by rfl) (by rfl) (by rfl) ?hr ?_; (case hr => first | (go_simp; done) | (go_simp; rfl)); intro wc4 hw4; have F3 := one_facts (i := 6) (cs' := #[.string title, .int .i64 H, .int .i64 W, .slice B2 bl.length b2, .slice B3 ri.length b3, .slice B4 be.length b4, .slice B5 cells.length b5, .slice A6 clues.length c6]) Ca3.out.q (.slice B5 cells.length b5) rfl; rw [← hw4] at F3; have C4 := Lib.hid (Ca3.out.put F3); have S2_4 := Lib.hid (R_of_heap (Kd.R_below S2_3.out hbb3.out) Ca3.out.q (by decide) F3.2.1); have S3_4 := Lib.hid (R_of_heap (Kd.R_below S3_3.out hbb3.out) Ca3.out.q (by decide) F3.2.1); have S4_4 := Lib.hid (R_of_heap (Kd.R_below S4_3.out hbb3.out) Ca3.out.q (by decide) F3.2.1); have S5_4 := Lib.hid (R_of_heap (Kd.R_lower hoa3.out (below_size C3.out.b)) Ca3.out.q (by decide) F3.2.1); have p4 := cells8 C4.out.p; have q4 := cells8 C4.out.q; have f4 := frozen8 C4.out.q; clear hw4 F3 pa3 qa3 fa3))
    | ((with_reducible refine gate_dst (N := 31) rfl ?_); go_must (refine Kd.R_lit Kd.string _ 9 ?hg (N := 31) ?hd (xs := ([] : List ByteArray)) (inner := []) (ok := fun _ => True) (okp := fun _ => True) ?hr ?hp (fun _ hk => hk) trivial (Below.refl _ _) (Nat.le_refl _) (by simp) ?_; (case hd => rfl); (case hg => rfl); (case hr => first | (go_simp; done) | (go_simp; rfl)); (case hp => exact (Reps.none _ _)); intro vl4 wl4 hol4 hbl4 hg_ hnew_; clear hg_ hnew_; have Cl4 := Lib.hid (C4.out.below hbl4); have pl4 := cells8 Cl4.out.p; have ql4 := cells8 Cl4.out.q; replace hol4 := Lib.hid hol4; replace hbl4 := Lib.hid hbl4; clear p4 q4 f4))
    | ((with_reducible refine gate_builtin (b := .append) (xs := #[.tmp 31, .tmp 33]) rfl ?_); go_must (at_builtin; refine Kd.R_append_rows Kd.string (w0 := wc4) wc4.heap.size rfl (.tmp 31) (.tmp 33) 25 9 (.string ⟨#[]⟩) 16 rfl Tryz.underlying25 str_info rfl (by decide) (by decide) vl4 ([] : List ByteArray) clues _ _ _ (fun _ => True) (fun _ => False) rfl rfl ?aO ?aR (fun _ _ h => h) (fun _ h => h.elim) ?aF ?aB ?aS ?aL ?_; (case aR => exact (hP.below Cl4.out.b).r6); (case aB => exact hbl4.out); (case aF => exact (fun _ _ => trivial)); (case aO => exact hol4.out); (case aS => exact hbl4.out.size); (case aL => have := hz.m; simp only [List.length_nil]; omega); intro va4 wa4 hoa4 hba4 hg_ hat_; clear hg_ hat_; rw [List.nil_append] at hoa4; obtain ⟨B6, b6, rfl⟩ := Kd.R_slice hoa4; have Ca4 := Lib.hid (C4.out.below hba4); have pa4 := cells8 Ca4.out.p; have qa4 := cells8 Ca4.out.q; have fa4 := frozen8 Ca4.out.q; replace hoa4 := Lib.hid hoa4; have hbb4 := Lib.hid hba4; clear hba4 pl4 ql4))
    | ((with_reducible refine gate_store (t := 25) (p := 35) (v := .tmp 34) rfl ?_); go_must (refine store_event (w1 := wa4.setCell ⟨w.heap.size + 1 + 1, 7, none⟩ (.slice B6 clues.length b6)) (by rfl) (by rfl) (by rfl) ?hr ?_; (case hr => first | (go_simp; done) | (go_simp; rfl)); intro wc5 hw5; have F4 := one_facts (i := 7) (cs' := #[.string title, .int .i64 H, .int .i64 W, .slice B2 bl.length b2, .slice B3 ri.length b3, .slice B4 be.length b4, .slice B5 cells.length b5, .slice B6 clues.length b6]) Ca4.out.q (.slice B6 clues.length b6) rfl; rw [← hw5] at F4; have C5 := Lib.hid (Ca4.out.put F4); have S2_5 := Lib.hid (R_of_heap (Kd.R_below S2_4.out hbb4.out) Ca4.out.q (by decide) F4.2.1); have S3_5 := Lib.hid (R_of_heap (Kd.R_below S3_4.out hbb4.out) Ca4.out.q (by decide) F4.2.1); have S4_5 := Lib.hid (R_of_heap (Kd.R_below S4_4.out hbb4.out) Ca4.out.q (by decide) F4.2.1); have S5_5 := Lib.hid (R_of_heap (Kd.R_below S5_4.out hbb4.out) Ca4.out.q (by decide) F4.2.1); have S6_5 := Lib.hid (R_of_heap (Kd.R_lower hoa4.out (below_size C4.out.b)) Ca4.out.q (by decide) F4.2.1); have t5 := cells8 C5.out.t; have g5 := frozen8 C5.out.t; have q5 := cells8 C5.out.q; have f5 := frozen8 C5.out.q; clear hw5 F4 pa4 qa4 fa4))
    | ((with_reducible refine gate_store (t := 27) (p := 2) (v := .tmp 36) rfl ?_); go_must (refine store_event (w1 := put8 wc5 (w.heap.size + 1) (.string title) (.int .i64 H) (.int .i64 W) (.slice B2 bl.length b2) (.slice B3 ri.length b3) (.slice B4 be.length b4) (.slice B5 cells.length b5) (.slice B6 clues.length b6)) (by rfl) (by rfl) (by rfl) ?hr ?_; (case hr => first | (go_simp; done) | (go_simp; rfl)); intro w9 hw9; have F9 := put8_facts C5.out.t (.string title) (.int .i64 H) (.int .i64 W) (.slice B2 bl.length b2) (.slice B3 ri.length b3) (.slice B4 be.length b4) (.slice B5 cells.length b5) (.slice B6 clues.length b6); rw [← hw9] at F9; clear hw9)))
  refine bodyPost_ret (results_cell_row rfl _ _ (w.heap.size + 1) 27 #[.string title, .int .i64 H, .int .i64 W, .slice B2 bl.length b2, .slice B3 ri.length b3, .slice B4 be.length b4, .slice B5 cells.length b5, .slice B6 clues.length b6] (0, 0) _ rfl F9.1 Tryz.underlying27 rfl (by kernel_rfl)) rfl ?_
  exact ⟨_, _, _, _, _, _, _, _, _, _, rfl, ⟨R_of_heap S2_5.out C5.out.t (by decide) F9.2.1, R_of_heap S3_5.out C5.out.t (by decide) F9.2.1, R_of_heap S4_5.out C5.out.t (by decide) F9.2.1, R_of_heap S5_5.out C5.out.t (by decide) F9.2.1, R_of_heap S6_5.out C5.out.t (by decide) F9.2.1⟩, F9.2.2 _ _ C5.out.b (by omega)⟩
end Go.Proofs.YtiipailmldbpbaaGreatDoor.Q
end
section
namespace Go.Proofs.YtiipailmldbpbaaGreatDoor.Q
open Go.RowKit Go.Proofs.YtiipailmldbpbaaGreatDoorW.PrintWords Go.Proofs.YtiipailmldbpbaaGreatDoorW.PrintLast Go.Proofs.YtiipailmldbpbaaGreatDoorW.PrintMore
set_option linter.unusedVariables false
set_option linter.unusedSimpArgs false
open Go.Proofs.YtiipailmldbpbaaGreatDoorS
set_option maxHeartbeats 8000000 in
set_option maxRecDepth 1000000 in
theorem rebusref23_Copied.calls {A7 : Option Addr} {c7 : Nat} {sc : List ByteArray} {A8 : Option Addr} {c8 : Nat} {ss : List Bool} {at_ : Int} {dn : Bool} {w : World} (hS : ShtR A7 c7 sc A8 c8 ss w) (hl : sc.length ≤ 1048576) (hm : ss.length ≤ 1048576) :
    Calls Tryz.prog 5 #[.agg #[.slice A7 sc.length c7, .slice A8 ss.length c8, .int .i64 at_, .bool dn]] w fun e w' => ∃ v0 v1, e = .returned (.agg #[v0, v1, .int .i64 at_, .bool dn]) ∧ Kd.R Kd.string 9 w' w.heap.size (fun _ => True) v0 sc ∧ Kd.R Kd.bool 4 w' w.heap.size (fun _ => True) v1 ss ∧ Below w.heap.size w w' := by
  have hx := box2 w (.cells #[.slice A7 sc.length c7, .slice A8 ss.length c8, .int .i64 at_, .bool dn] 29) (.cells #[.slice none 0 0, .slice none 0 0, .int .i64 0, .bool false] 29)
  have hu30 := Tryz.underlying29
  replace hx := Lib.hid hx
  go_enter Tryz.func5, Tryz.ntmps5
  go_wp2
  refine start_ (n := 14) (S := fun w' => w'.cell? ⟨w.heap.size, 0, none⟩ = some (.slice A7 sc.length c7) ∧ w'.cell? ⟨w.heap.size, 1, none⟩ = some (.slice A8 ss.length c8) ∧ w'.cell? ⟨w.heap.size, 2, none⟩ = some (.int .i64 at_) ∧ w'.cell? ⟨w.heap.size, 3, none⟩ = some (.bool dn)) (ds := []) #[false, false, false, false, false, false, false, false, false, false, false, false, false, false] (by kernel_rfl) rfl rfl (cells4 (blk_drew hx.out.1)) (fun hHeld => ?_)
  have bS := blk_drew hx.out.1
  have bT := blk_drew hx.out.2.1
  have hB := below_drew hx.out.2.2
  generalize ((w.alloc (.cells #[.slice A7 sc.length c7, .slice A8 ss.length c8, .int .i64 at_, .bool dn] 29)).alloc (.cells #[.slice none 0 0, .slice none 0 0, .int .i64 0, .bool false] 29)).drew = w3 at bS bT hB hHeld ⊢
  refine pure_ (i := 1) (N := some 4) (v := ?_) (a' := ?_) #[false, true, false, false, false, false, false, false, false, false, false, false, false, false] rfl rfl (by kernel_rfl) (fun _ _ _ h => h) (Or.inl ⟨by rfl, ?_⟩) ?_ ?_
  rotate_left
  · intro w'; go_simp; with_reducible rfl
  rotate_left
  · simp only [Act.put, List.setIfInBounds_toArray, List.set_cons_zero, List.set_cons_succ, i64_w, i32_w]; rfl
  refine pure_ (i := 5) (N := some 8) (v := ?_) (a' := ?_) #[false, true, false, false, false, true, false, false, false, false, false, false, false, false] rfl rfl (by kernel_rfl) (fun _ _ _ h => h) (Or.inl ⟨by rfl, ?_⟩) ?_ ?_
  rotate_left
  · intro w'; go_simp; with_reducible rfl
  rotate_left
  · simp only [Act.put, List.setIfInBounds_toArray, List.set_cons_zero, List.set_cons_succ, i64_w, i32_w]; rfl
  refine pure_ (i := 8) (N := some 11) (v := ?_) (a' := ?_) #[false, true, false, false, false, true, false, false, true, false, false, false, false, false] rfl rfl (by kernel_rfl) (fun _ _ _ h => h) (Or.inl ⟨by rfl, ?_⟩) ?_ ?_
  rotate_left
  · intro w'; go_simp; with_reducible rfl
  rotate_left
  · simp only [Act.put, List.setIfInBounds_toArray, List.set_cons_zero, List.set_cons_succ, i64_w, i32_w]; rfl
  refine pure_ (i := 10) (N := some 13) (v := ?_) (a' := ?_) #[false, true, false, false, false, true, false, false, true, false, true, false, false, false] rfl rfl (by kernel_rfl) (fun _ _ _ h => h) (Or.inl ⟨by rfl, ?_⟩) ?_ ?_
  rotate_left
  · intro w'; go_simp; with_reducible rfl
  rotate_left
  · simp only [Act.put, List.setIfInBounds_toArray, List.set_cons_zero, List.set_cons_succ, i64_w, i32_w]; rfl
  refine take_ (i := 2) (N := some 5) (v := ?_) (a' := ?_) #[false, true, true, false, false, true, false, false, true, false, true, false, false, false] rfl rfl (by kernel_rfl) (fun _ _ _ h => h) (Or.inl ⟨by rfl, ?_⟩) hHeld ?_ ?_
  rotate_left
  · intro w' s0; go_simp; with_reducible rfl
  rotate_left
  · simp only [Act.put, List.setIfInBounds_toArray, List.set_cons_zero, List.set_cons_succ, i64_w, i32_w]; rfl
  refine take_ (i := 6) (N := some 9) (v := ?_) (a' := ?_) #[false, true, true, false, false, true, true, false, true, false, true, false, false, false] rfl rfl (by kernel_rfl) (fun _ _ _ h => h) (Or.inl ⟨by rfl, ?_⟩) hHeld ?_ ?_
  rotate_left
  · intro w' s0; go_simp; with_reducible rfl
  rotate_left
  · simp only [Act.put, List.setIfInBounds_toArray, List.set_cons_zero, List.set_cons_succ, i64_w, i32_w]; rfl
  refine take_ (i := 9) (N := some 12) (v := ?_) (a' := ?_) #[false, true, true, false, false, true, true, false, true, true, true, false, false, false] rfl rfl (by kernel_rfl) (fun _ _ _ h => h) (Or.inl ⟨by rfl, ?_⟩) hHeld ?_ ?_
  rotate_left
  · intro w' s0; go_simp; with_reducible rfl
  rotate_left
  · simp only [Act.put, List.setIfInBounds_toArray, List.set_cons_zero, List.set_cons_succ, i64_w, i32_w]; rfl
  refine take_ (i := 11) (N := some 14) (v := ?_) (a' := ?_) #[false, true, true, false, false, true, true, false, true, true, true, true, false, false] rfl rfl (by kernel_rfl) (fun _ _ _ h => h) (Or.inl ⟨by rfl, ?_⟩) hHeld ?_ ?_
  rotate_left
  · intro w' s0; go_simp; with_reducible rfl
  rotate_left
  · simp only [Act.put, List.setIfInBounds_toArray, List.set_cons_zero, List.set_cons_succ, i64_w, i32_w]; rfl
  refine two_ (i := 0) (j := 4) (Ni := some 3) (Nj := some 7) #[true, true, true, false, false, true, true, false, true, true, true, true, false, false] #[false, true, true, false, true, true, true, false, true, true, true, true, false, false] rfl rfl rfl rfl (by kernel_rfl) (by decide) (by decide) (fun K hK => ?_) (fun K hK => ?_)
  · refine Kd.R_lit_step Kd.string _ 9 ?hg (N := 3) ?hd (xs := ([] : List ByteArray)) (inner := []) (ok := fun _ => True) (okp := fun _ => True) ?hr ?hp (fun _ hk => hk) trivial (Below.refl _ _) (Nat.le_refl _) (by simp) ?_; (case hd => rfl); (case hg => rfl); (case hr => first | (go_simp; done) | (go_simp; rfl)); (case hp => exact (Reps.none _ _))
    intro v0 _ ho hb _ _
    have RX := Kd.R_lower ho (below_size hB)
    have bS := blk_below bS hb
    have bT := blk_below bT hb
    have hB := below_step hB hb
    clear ho hb
    refine hK.out _ _ (cells4 bS) (fun hHeld => ?_)
    clear hK K
    refine norm_ (a' := ?_) ?_ ?_
    rotate_left
    · show Act.put _ (some 3) _ = _
      simp only [Act.put, List.setIfInBounds_toArray, List.set_cons_zero, List.set_cons_succ, i64_w, i32_w]
      rfl
    refine two_ (i := 3) (j := 4) (Ni := some 6) (Nj := some 7) #[true, true, true, true, false, true, true, false, true, true, true, true, false, false] #[true, true, true, false, true, true, true, false, true, true, true, true, false, false] rfl rfl rfl rfl (by kernel_rfl) (by decide) (by decide) (fun K hK => ?_) (fun K hK => ?_)
    · refine Kd.R_append_rows_step Kd.string (w0 := w) w.heap.size (by rfl) (.tmp 3) (.tmp 5) 25 9 (.string ⟨#[]⟩) 16 rfl Tryz.underlying25 str_info rfl (by decide) (by decide) v0 ([] : List ByteArray) sc _ _ _ (fun _ => True) (fun _ => False) rfl rfl ?aO ?aR (fun _ _ h => h) (fun _ h => h.elim) ?aF ?aB ?aS ?aL ?_
      (case aR => exact (hS.below hB).r7)
      (case aB => exact hB)
      (case aF => exact (fun _ _ => trivial))
      (case aO => exact RX)
      (case aS => exact below_size hB)
      (case aL => simp only [List.length_nil]; omega)
      intro v3 _ ho hb hg _
      have bS := blk_grown bS hg (Kd.R_ne RX bS (by decide))
      have bT := blk_grown bT hg (Kd.R_ne RX bT (by decide))
      rw [List.nil_append] at ho
      have RX := ho
      have hB := hb
      clear ho hb hg
      obtain ⟨B7, b7, rfl⟩ := Kd.R_slice RX
      refine hK.out _ _ (cells4 bS) (fun hHeld => ?_)
      clear hK K
      refine norm_ (a' := ?_) ?_ ?_
      rotate_left
      · show Act.put _ (some 6) _ = _
        simp only [Act.put, List.setIfInBounds_toArray, List.set_cons_zero, List.set_cons_succ, i64_w, i32_w]
        rfl
      refine one_ (i := 4) (N := some 7) #[true, true, true, true, true, true, true, false, true, true, true, true, false, false] rfl rfl (by kernel_rfl) (by decide) (fun K hK => ?_)
      refine Kd.R_lit_step Kd.bool _ 4 ?hg (N := 7) ?hd (xs := ([] : List Bool)) (inner := []) (ok := fun _ => True) (okp := fun _ => True) ?hr ?hp (fun _ hk => hk) trivial (Below.refl _ _) (Nat.le_refl _) (by simp) ?_; (case hd => rfl); (case hg => rfl); (case hr => first | (go_simp; done) | (go_simp; rfl)); (case hp => exact (Reps.none _ _))
      intro v4 _ ho hb _ _
      have RY := Kd.R_lower ho (below_size hB)
      have RX := Kd.R_below RX hb
      have bS := blk_below bS hb
      have bT := blk_below bT hb
      have hB := below_step hB hb
      clear ho hb
      refine hK.out _ _ (cells4 bS) (fun hHeld => ?_)
      clear hK K
      refine norm_ (a' := ?_) ?_ ?_
      rotate_left
      · show Act.put _ (some 7) _ = _
        simp only [Act.put, List.setIfInBounds_toArray, List.set_cons_zero, List.set_cons_succ, i64_w, i32_w]
        rfl
      refine one_ (i := 7) (N := some 10) #[true, true, true, true, true, true, true, true, true, true, true, true, false, false] rfl rfl (by kernel_rfl) (by decide) (fun K hK => ?_)
      refine Kd.R_append_rows_step Kd.bool (w0 := w) w.heap.size (by rfl) (.tmp 7) (.tmp 9) 22 4 (.bool false) 1 rfl Tryz.underlying22 bool_info rfl (by decide) (by decide) v4 ([] : List Bool) ss _ _ _ (fun _ => True) (fun _ => False) rfl rfl ?aO ?aR (fun _ _ h => h) (fun _ h => h.elim) ?aF ?aB ?aS ?aL ?_
      (case aR => exact (hS.below hB).r8)
      (case aB => exact hB)
      (case aF => exact (fun _ _ => trivial))
      (case aO => exact RY)
      (case aS => exact below_size hB)
      (case aL => simp only [List.length_nil]; omega)
      intro v7 _ ho hb hg _
      have bS := blk_grown bS hg (Kd.R_ne RY bS (by decide))
      have bT := blk_grown bT hg (Kd.R_ne RY bT (by decide))
      have RX := Kd.R_over RX RY (by decide) hg
      rw [List.nil_append] at ho
      have RY := ho
      have hB := hb
      clear ho hb hg
      obtain ⟨B8, b8, rfl⟩ := Kd.R_slice RY
      refine hK.out _ _ (cells4 bS) (fun hHeld => ?_)
      clear hK K
      refine norm_ (a' := ?_) ?_ ?_
      rotate_left
      · show Act.put _ (some 10) _ = _
        simp only [Act.put, List.setIfInBounds_toArray, List.set_cons_zero, List.set_cons_succ, i64_w, i32_w]
        rfl
      refine pure_ (i := 12) (N := some 15) (v := ?_) (a' := ?_) #[true, true, true, true, true, true, true, true, true, true, true, true, true, false] rfl rfl (by kernel_rfl) (fun _ _ _ h => h) (Or.inl ⟨by rfl, ?_⟩) ?_ ?_
      rotate_left
      · intro w'; go_simp; with_reducible rfl
      rotate_left
      · simp only [Act.put, List.setIfInBounds_toArray, List.set_cons_zero, List.set_cons_succ, i64_w, i32_w]; rfl
      refine one_ (i := 13) (N := none) #[true, true, true, true, true, true, true, true, true, true, true, true, true, true] rfl rfl (by kernel_rfl) (by decide) (fun K hK => ?_)
      have t8 := cells4 bT
      have f8 := frozen4 bT
      have F8 := put4_facts bT (.slice B7 sc.length b7) (.slice B8 ss.length b8) (.int .i64 at_) (.bool dn)
      refine skip_ (w1 := put4 _ (w.heap.size + 1) (.slice B7 sc.length b7) (.slice B8 ss.length b8) (.int .i64 at_) (.bool dn)) (by rfl) rfl (by first | (go_simp; done) | (go_simp; rfl)) ?_
      have bS9 := (F8.2.1 _ (by omega)).trans bS
      refine hK.out _ _ (cells4 bS9) (fun hHeld => ?_)
      clear hK K
      refine done_ (by kernel_rfl) ?_
      try go_wp2
      refine bodyPost_ret (results_cell_row rfl _ _ (w.heap.size + 1) 29 #[.slice B7 sc.length b7, .slice B8 ss.length b8, .int .i64 at_, .bool dn] (0, 0) _ rfl F8.1 Tryz.underlying29 rfl (by kernel_rfl)) rfl ?_
      exact ⟨_, _, rfl, R_of_heap RX bT (by decide) F8.2.1, R_of_heap RY bT (by decide) F8.2.1, F8.2.2 _ _ hB (by omega)⟩
    · refine Kd.R_lit_step Kd.bool _ 4 ?hg (N := 7) ?hd (xs := ([] : List Bool)) (inner := []) (ok := fun _ => True) (okp := fun _ => True) ?hr ?hp (fun _ hk => hk) trivial (Below.refl _ _) (Nat.le_refl _) (by simp) ?_; (case hd => rfl); (case hg => rfl); (case hr => first | (go_simp; done) | (go_simp; rfl)); (case hp => exact (Reps.none _ _))
      intro v4 _ ho hb _ _
      have RY := Kd.R_lower ho (below_size hB)
      have RX := Kd.R_below RX hb
      have bS := blk_below bS hb
      have bT := blk_below bT hb
      have hB := below_step hB hb
      clear ho hb
      refine hK.out _ _ (cells4 bS) (fun hHeld => ?_)
      clear hK K
      refine norm_ (a' := ?_) ?_ ?_
      rotate_left
      · show Act.put _ (some 7) _ = _
        simp only [Act.put, List.setIfInBounds_toArray, List.set_cons_zero, List.set_cons_succ, i64_w, i32_w]
        rfl
      refine one_ (i := 3) (N := some 6) #[true, true, true, true, true, true, true, false, true, true, true, true, false, false] rfl rfl (by kernel_rfl) (by decide) (fun K hK => ?_)
      refine Kd.R_append_rows_step Kd.string (w0 := w) w.heap.size (by rfl) (.tmp 3) (.tmp 5) 25 9 (.string ⟨#[]⟩) 16 rfl Tryz.underlying25 str_info rfl (by decide) (by decide) v0 ([] : List ByteArray) sc _ _ _ (fun _ => True) (fun _ => False) rfl rfl ?aO ?aR (fun _ _ h => h) (fun _ h => h.elim) ?aF ?aB ?aS ?aL ?_
      (case aR => exact (hS.below hB).r7)
      (case aB => exact hB)
      (case aF => exact (fun _ _ => trivial))
      (case aO => exact RX)
      (case aS => exact below_size hB)
      (case aL => simp only [List.length_nil]; omega)
      intro v3 _ ho hb hg _
      have bS := blk_grown bS hg (Kd.R_ne RX bS (by decide))
      have bT := blk_grown bT hg (Kd.R_ne RX bT (by decide))
      have RY := Kd.R_over RY RX (by decide) hg
      rw [List.nil_append] at ho
      have RX := ho
      have hB := hb
      clear ho hb hg
      obtain ⟨B7, b7, rfl⟩ := Kd.R_slice RX
      refine hK.out _ _ (cells4 bS) (fun hHeld => ?_)
      clear hK K
      refine norm_ (a' := ?_) ?_ ?_
      rotate_left
      · show Act.put _ (some 6) _ = _
        simp only [Act.put, List.setIfInBounds_toArray, List.set_cons_zero, List.set_cons_succ, i64_w, i32_w]
        rfl
      refine one_ (i := 7) (N := some 10) #[true, true, true, true, true, true, true, true, true, true, true, true, false, false] rfl rfl (by kernel_rfl) (by decide) (fun K hK => ?_)
      refine Kd.R_append_rows_step Kd.bool (w0 := w) w.heap.size (by rfl) (.tmp 7) (.tmp 9) 22 4 (.bool false) 1 rfl Tryz.underlying22 bool_info rfl (by decide) (by decide) v4 ([] : List Bool) ss _ _ _ (fun _ => True) (fun _ => False) rfl rfl ?aO ?aR (fun _ _ h => h) (fun _ h => h.elim) ?aF ?aB ?aS ?aL ?_
      (case aR => exact (hS.below hB).r8)
      (case aB => exact hB)
      (case aF => exact (fun _ _ => trivial))
      (case aO => exact RY)
      (case aS => exact below_size hB)
      (case aL => simp only [List.length_nil]; omega)
      intro v7 _ ho hb hg _
      have bS := blk_grown bS hg (Kd.R_ne RY bS (by decide))
      have bT := blk_grown bT hg (Kd.R_ne RY bT (by decide))
      have RX := Kd.R_over RX RY (by decide) hg
      rw [List.nil_append] at ho
      have RY := ho
      have hB := hb
      clear ho hb hg
      obtain ⟨B8, b8, rfl⟩ := Kd.R_slice RY
      refine hK.out _ _ (cells4 bS) (fun hHeld => ?_)
      clear hK K
      refine norm_ (a' := ?_) ?_ ?_
      rotate_left
      · show Act.put _ (some 10) _ = _
        simp only [Act.put, List.setIfInBounds_toArray, List.set_cons_zero, List.set_cons_succ, i64_w, i32_w]
        rfl
      refine pure_ (i := 12) (N := some 15) (v := ?_) (a' := ?_) #[true, true, true, true, true, true, true, true, true, true, true, true, true, false] rfl rfl (by kernel_rfl) (fun _ _ _ h => h) (Or.inl ⟨by rfl, ?_⟩) ?_ ?_
      rotate_left
      · intro w'; go_simp; with_reducible rfl
      rotate_left
      · simp only [Act.put, List.setIfInBounds_toArray, List.set_cons_zero, List.set_cons_succ, i64_w, i32_w]; rfl
      refine one_ (i := 13) (N := none) #[true, true, true, true, true, true, true, true, true, true, true, true, true, true] rfl rfl (by kernel_rfl) (by decide) (fun K hK => ?_)
      have t8 := cells4 bT
      have f8 := frozen4 bT
      have F8 := put4_facts bT (.slice B7 sc.length b7) (.slice B8 ss.length b8) (.int .i64 at_) (.bool dn)
      refine skip_ (w1 := put4 _ (w.heap.size + 1) (.slice B7 sc.length b7) (.slice B8 ss.length b8) (.int .i64 at_) (.bool dn)) (by rfl) rfl (by first | (go_simp; done) | (go_simp; rfl)) ?_
      have bS9 := (F8.2.1 _ (by omega)).trans bS
      refine hK.out _ _ (cells4 bS9) (fun hHeld => ?_)
      clear hK K
      refine done_ (by kernel_rfl) ?_
      try go_wp2
      refine bodyPost_ret (results_cell_row rfl _ _ (w.heap.size + 1) 29 #[.slice B7 sc.length b7, .slice B8 ss.length b8, .int .i64 at_, .bool dn] (0, 0) _ rfl F8.1 Tryz.underlying29 rfl (by kernel_rfl)) rfl ?_
      exact ⟨_, _, rfl, R_of_heap RX bT (by decide) F8.2.1, R_of_heap RY bT (by decide) F8.2.1, F8.2.2 _ _ hB (by omega)⟩
  · refine Kd.R_lit_step Kd.bool _ 4 ?hg (N := 7) ?hd (xs := ([] : List Bool)) (inner := []) (ok := fun _ => True) (okp := fun _ => True) ?hr ?hp (fun _ hk => hk) trivial (Below.refl _ _) (Nat.le_refl _) (by simp) ?_; (case hd => rfl); (case hg => rfl); (case hr => first | (go_simp; done) | (go_simp; rfl)); (case hp => exact (Reps.none _ _))
    intro v4 _ ho hb _ _
    have RY := Kd.R_lower ho (below_size hB)
    have bS := blk_below bS hb
    have bT := blk_below bT hb
    have hB := below_step hB hb
    clear ho hb
    refine hK.out _ _ (cells4 bS) (fun hHeld => ?_)
    clear hK K
    refine norm_ (a' := ?_) ?_ ?_
    rotate_left
    · show Act.put _ (some 7) _ = _
      simp only [Act.put, List.setIfInBounds_toArray, List.set_cons_zero, List.set_cons_succ, i64_w, i32_w]
      rfl
    refine one_ (i := 0) (N := some 3) #[true, true, true, false, true, true, true, false, true, true, true, true, false, false] rfl rfl (by kernel_rfl) (by decide) (fun K hK => ?_)
    refine Kd.R_lit_step Kd.string _ 9 ?hg (N := 3) ?hd (xs := ([] : List ByteArray)) (inner := []) (ok := fun _ => True) (okp := fun _ => True) ?hr ?hp (fun _ hk => hk) trivial (Below.refl _ _) (Nat.le_refl _) (by simp) ?_; (case hd => rfl); (case hg => rfl); (case hr => first | (go_simp; done) | (go_simp; rfl)); (case hp => exact (Reps.none _ _))
    intro v0 _ ho hb _ _
    have RX := Kd.R_lower ho (below_size hB)
    have RY := Kd.R_below RY hb
    have bS := blk_below bS hb
    have bT := blk_below bT hb
    have hB := below_step hB hb
    clear ho hb
    refine hK.out _ _ (cells4 bS) (fun hHeld => ?_)
    clear hK K
    refine norm_ (a' := ?_) ?_ ?_
    rotate_left
    · show Act.put _ (some 3) _ = _
      simp only [Act.put, List.setIfInBounds_toArray, List.set_cons_zero, List.set_cons_succ, i64_w, i32_w]
      rfl
    refine one_ (i := 3) (N := some 6) #[true, true, true, true, true, true, true, false, true, true, true, true, false, false] rfl rfl (by kernel_rfl) (by decide) (fun K hK => ?_)
    refine Kd.R_append_rows_step Kd.string (w0 := w) w.heap.size (by rfl) (.tmp 3) (.tmp 5) 25 9 (.string ⟨#[]⟩) 16 rfl Tryz.underlying25 str_info rfl (by decide) (by decide) v0 ([] : List ByteArray) sc _ _ _ (fun _ => True) (fun _ => False) rfl rfl ?aO ?aR (fun _ _ h => h) (fun _ h => h.elim) ?aF ?aB ?aS ?aL ?_
    (case aR => exact (hS.below hB).r7)
    (case aB => exact hB)
    (case aF => exact (fun _ _ => trivial))
    (case aO => exact RX)
    (case aS => exact below_size hB)
    (case aL => simp only [List.length_nil]; omega)
    intro v3 _ ho hb hg _
    have bS := blk_grown bS hg (Kd.R_ne RX bS (by decide))
    have bT := blk_grown bT hg (Kd.R_ne RX bT (by decide))
    have RY := Kd.R_over RY RX (by decide) hg
    rw [List.nil_append] at ho
    have RX := ho
    have hB := hb
    clear ho hb hg
    obtain ⟨B7, b7, rfl⟩ := Kd.R_slice RX
    refine hK.out _ _ (cells4 bS) (fun hHeld => ?_)
    clear hK K
    refine norm_ (a' := ?_) ?_ ?_
    rotate_left
    · show Act.put _ (some 6) _ = _
      simp only [Act.put, List.setIfInBounds_toArray, List.set_cons_zero, List.set_cons_succ, i64_w, i32_w]
      rfl
    refine one_ (i := 7) (N := some 10) #[true, true, true, true, true, true, true, true, true, true, true, true, false, false] rfl rfl (by kernel_rfl) (by decide) (fun K hK => ?_)
    refine Kd.R_append_rows_step Kd.bool (w0 := w) w.heap.size (by rfl) (.tmp 7) (.tmp 9) 22 4 (.bool false) 1 rfl Tryz.underlying22 bool_info rfl (by decide) (by decide) v4 ([] : List Bool) ss _ _ _ (fun _ => True) (fun _ => False) rfl rfl ?aO ?aR (fun _ _ h => h) (fun _ h => h.elim) ?aF ?aB ?aS ?aL ?_
    (case aR => exact (hS.below hB).r8)
    (case aB => exact hB)
    (case aF => exact (fun _ _ => trivial))
    (case aO => exact RY)
    (case aS => exact below_size hB)
    (case aL => simp only [List.length_nil]; omega)
    intro v7 _ ho hb hg _
    have bS := blk_grown bS hg (Kd.R_ne RY bS (by decide))
    have bT := blk_grown bT hg (Kd.R_ne RY bT (by decide))
    have RX := Kd.R_over RX RY (by decide) hg
    rw [List.nil_append] at ho
    have RY := ho
    have hB := hb
    clear ho hb hg
    obtain ⟨B8, b8, rfl⟩ := Kd.R_slice RY
    refine hK.out _ _ (cells4 bS) (fun hHeld => ?_)
    clear hK K
    refine norm_ (a' := ?_) ?_ ?_
    rotate_left
    · show Act.put _ (some 10) _ = _
      simp only [Act.put, List.setIfInBounds_toArray, List.set_cons_zero, List.set_cons_succ, i64_w, i32_w]
      rfl
    refine pure_ (i := 12) (N := some 15) (v := ?_) (a' := ?_) #[true, true, true, true, true, true, true, true, true, true, true, true, true, false] rfl rfl (by kernel_rfl) (fun _ _ _ h => h) (Or.inl ⟨by rfl, ?_⟩) ?_ ?_
    rotate_left
    · intro w'; go_simp; with_reducible rfl
    rotate_left
    · simp only [Act.put, List.setIfInBounds_toArray, List.set_cons_zero, List.set_cons_succ, i64_w, i32_w]; rfl
    refine one_ (i := 13) (N := none) #[true, true, true, true, true, true, true, true, true, true, true, true, true, true] rfl rfl (by kernel_rfl) (by decide) (fun K hK => ?_)
    have t8 := cells4 bT
    have f8 := frozen4 bT
    have F8 := put4_facts bT (.slice B7 sc.length b7) (.slice B8 ss.length b8) (.int .i64 at_) (.bool dn)
    refine skip_ (w1 := put4 _ (w.heap.size + 1) (.slice B7 sc.length b7) (.slice B8 ss.length b8) (.int .i64 at_) (.bool dn)) (by rfl) rfl (by first | (go_simp; done) | (go_simp; rfl)) ?_
    have bS9 := (F8.2.1 _ (by omega)).trans bS
    refine hK.out _ _ (cells4 bS9) (fun hHeld => ?_)
    clear hK K
    refine done_ (by kernel_rfl) ?_
    try go_wp2
    refine bodyPost_ret (results_cell_row rfl _ _ (w.heap.size + 1) 29 #[.slice B7 sc.length b7, .slice B8 ss.length b8, .int .i64 at_, .bool dn] (0, 0) _ rfl F8.1 Tryz.underlying29 rfl (by kernel_rfl)) rfl ?_
    exact ⟨_, _, rfl, R_of_heap RX bT (by decide) F8.2.1, R_of_heap RY bT (by decide) F8.2.1, F8.2.2 _ _ hB (by omega)⟩
end Go.Proofs.YtiipailmldbpbaaGreatDoor.Q
end
