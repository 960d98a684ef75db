/- PART 9 OF A PROOF: Lean functions, and that the program computes them; written by hand and by a program. Not trusted: Lean checks it. -/
import Derived.Test.YtjopbfidjapmbaaGreatDoorRa3
import Derived.Test.YtjopbfidjapmbaaGreatDoorRa6
import Derived.Test.YtjopbfidjapmbaaGreatDoorRa7
import Derived.Test.YtjopbfidjapmbaaGreatDoorRa8
set_option linter.unusedVariables false
set_option linter.unusedSimpArgs false
section
namespace Go.Proofs.YtjopbfidjapmbaaGreatDoor.Q
open Go.RowKit Go.Proofs.YtjopbfidjapmbaaGreatDoorW.PrintWords Go.Proofs.YtjopbfidjapmbaaGreatDoorW.PrintLast Go.Proofs.YtjopbfidjapmbaaGreatDoorW.PrintMore
attribute [local go_sem] max2_int min2_int max_two min_two max_three min_three max_four min_four
set_option linter.unusedVariables false
set_option linter.unusedSimpArgs false
open Go.Proofs.YtjopbfidjapmbaaGreatDoorS
theorem at_ops0 {α : Type} (a : α) (l : List α) : (List.toArray (a :: l))[0]? = some a := by simp
theorem at_ops1 {α : Type} (a b : α) (l : List α) : (List.toArray (a :: b :: l))[1]? = some b := by simp
theorem at_ops2 {α : Type} (a b c : α) (l : List α) : (List.toArray (a :: b :: c :: l))[2]? = some c := by simp
theorem at_ops3 {α : Type} (a b c d : α) (l : List α) : (List.toArray (a :: b :: c :: d :: l))[3]? = some d := by simp
theorem at_ops4 {α : Type} (a b c d e : α) (l : List α) : (List.toArray (a :: b :: c :: d :: e :: l))[4]? = some e := by simp
theorem at_ops5 {α : Type} (a b c d e f : α) (l : List α) : (List.toArray (a :: b :: c :: d :: e :: f :: l))[5]? = some f := by simp
theorem at_ops6 {α : Type} (a b c d e f g : α) (l : List α) : (List.toArray (a :: b :: c :: d :: e :: f :: g :: l))[6]? = some g := by simp
theorem at_ops7 {α : Type} (a b c d e f g h : α) (l : List α) : (List.toArray (a :: b :: c :: d :: e :: f :: g :: h :: l))[7]? = some h := by simp
theorem at_ops8 {α : Type} (a b c d e f g h i : α) (l : List α) : (List.toArray (a :: b :: c :: d :: e :: f :: g :: h :: i :: l))[8]? = some i := by simp
def SeatOk (n m : Nat) (x : S150) : Prop := -1 ≤ x.f0 ∧ x.f0 < n ∧ 0 ≤ x.f1 ∧ x.f1 ≤ m
theorem seatCells_ok {n m : Nat} {s : Int} (hs : 0 ≤ s ∧ s < n) : ∀ (cs : List Int) (k : Nat) (l : List S150), k + cs.length ≤ m → (∀ x ∈ l, SeatOk n m x) → ∀ x ∈ seatCells s cs k l, SeatOk n m x
 | [], _, _, _, h => h
 | i :: is, k, l, hk, h => by
  simp only [seatCells]
  simp only [List.length_cons] at hk
  refine seatCells_ok hs is (k + 1) _ (by omega) (fun x hx => ?_)
  rcases List.mem_or_eq_of_mem_set hx with hx | rfl
  ·exact h x hx
  ·exact ⟨by simp only; omega, hs.2, Int.natCast_nonneg _, by simp only; omega⟩
theorem seatS_ok {n m : Nat} : ∀ (L : List S137) (s : Nat) (p : List S150 × List S150), s + L.length ≤ n → (∀ x ∈ L, x.f2.length ≤ m) → (∀ x ∈ p.1, SeatOk n m x) → (∀ x ∈ p.2, SeatOk n m x) →
  (∀ x ∈ (seatS L s p).1, SeatOk n m x) ∧ (∀ x ∈ (seatS L s p).2, SeatOk n m x) ∧ (seatS L s p).1.length = p.1.length ∧ (seatS L s p).2.length = p.2.length
 | [], _, _, _, _, h0, h1 => ⟨h0, h1, rfl, rfl⟩
 | y :: ys, s, p, hs, hl, h0, h1 => by
  simp only [seatS]
  simp only [List.length_cons] at hs
  have hy := hl y List.mem_cons_self
  have hl2 : ∀ x ∈ ys, x.f2.length ≤ m := fun x hx => hl x (List.mem_cons_of_mem _ hx)
  cases y.f1 with
  | true =>
   have := seatS_ok ys (s + 1) (p.1, seatCells (s : Int) y.f2 0 p.2) (by omega) hl2 h0 (seatCells_ok ⟨by omega, by omega⟩ _ _ _ (by omega) h1)
   exact ⟨this.1, this.2.1, this.2.2.1, by have h := this.2.2.2; rw [seatCells_length] at h; exact h⟩
  | false =>
   have := seatS_ok ys (s + 1) (seatCells (s : Int) y.f2 0 p.1, p.2) (by omega) hl2 (seatCells_ok ⟨by omega, by omega⟩ _ _ _ (by omega) h0) h1
   exact ⟨this.1, this.2.1, by have h := this.2.2.1; rw [seatCells_length] at h; exact h, this.2.2.2⟩
theorem seatsOf_facts {H W : Int} {bl ri be : List Bool} (hc : gcheck H W bl ri be = 0) :
  (∀ x ∈ (seatsOf H W bl ri be).1, SeatOk (slotsOf H W bl ri be).length bl.length x) ∧ (∀ x ∈ (seatsOf H W bl ri be).2, SeatOk (slotsOf H W bl ri be).length bl.length x) ∧ (seatsOf H W bl ri be).1.length = bl.length ∧ (seatsOf H W bl ri be).2.length = bl.length := by
 unfold seatsOf
 rw [if_pos hc]
 have h := slotsOf_facts hc
 have h1 : ∀ x ∈ List.replicate bl.length (⟨-1, 0⟩ : S150), SeatOk (slotsOf H W bl ri be).length bl.length x := fun x hx => by
  rw [List.eq_of_mem_replicate hx]
  exact ⟨Int.le_refl _, by simp only; omega, Int.le_refl _, by simp only; omega⟩
 have := seatS_ok (slotsOf H W bl ri be) 0 (List.replicate bl.length ⟨-1, 0⟩, List.replicate bl.length ⟨-1, 0⟩) (by omega) (fun x hx => (h.2 x hx).1) h1 h1
 simpa using this
theorem rd_seat {l : List S150} {i : Int} (h0 : 0 ≤ i) (h1 : i < l.length) : rd_T150 l i ∈ l := by
 have e : rd_T150 l i = l[i.toNat] := by simp [rd_T150, List.getD_eq_getElem?_getD, show i.toNat < l.length by omega]
 rw [e]
 exact List.getElem_mem _
def seatRow (H W : Int) (bl ri be : List Bool) (dn : Bool) : List S150 := if dn then (seatsOf H W bl ri be).2 else (seatsOf H W bl ri be).1
def stepSeat (H W : Int) (bl ri be : List Bool) (seat : S150) (at_ d : Int) : Int :=
 if seat.f0 < 0 then at_ else if 0 ≤ seat.f1 + d ∧ seat.f1 + d < (rd_T137 (slotsOf H W bl ri be) seat.f0).f2.length then rd (rd_T137 (slotsOf H W bl ri be) seat.f0).f2 (seat.f1 + d) else at_
def stepOf (H W : Int) (bl ri be : List Bool) (at_ : Int) (dn : Bool) (d : Int) : Int := stepSeat H W bl ri be (rd_T150 (seatRow H W bl ri be dn) at_) at_ d
theorem slot_cells {W : World} {base : Nat} {ok : Nat → Prop} {v : Value} {L : List S137} (h : Kd.S k137 137 W base ok v L) (j : Int) (h0 : 0 ≤ j) (h1 : j < L.length) :
  ∃ ad c B k, v = .slice (some ad) L.length c ∧ W.cell? (ad.add (j.toNat * 3)) = some (.int .i64 (rd_T137 L j).f0) ∧ W.cell? ⟨(ad.add (j.toNat * 3)).block, (ad.add (j.toNat * 3)).off + 1, none⟩ = some (.bool (rd_T137 L j).f1) ∧ W.cell? ⟨(ad.add (j.toNat * 3)).block, (ad.add (j.toNat * 3)).off + 2, none⟩ = some (.slice B (rd_T137 L j).f2.length k) ∧ Kd.R (Kd.int .i64) 3 W base (fun _ => True) (.slice B (rd_T137 L j).f2.length k) (rd_T137 L j).f2 := by
 obtain ⟨AL, cL, rfl⟩ := Kd.S_slice h
 cases AL with
 | none => have := (Kd.S_reads' h).2.2.2.2 (by omega); obtain ⟨ad, e, _⟩ := this; cases e
 | some ad =>
  obtain ⟨c, hcl, h2, hcc⟩ := Kd.S_get h z137 j h0 h1
  have hM : k137.M W base (fun _ => True) (rd_T137 L j) c := k137.M_mono (fun _ _ => trivial) h2
  obtain ⟨v2, rfl, hRc⟩ := k137_openM hM
  obtain ⟨B, k, rfl⟩ := Kd.R_slice hRc
  exact ⟨ad, cL, B, k, rfl, hcc 0 _ rfl, by rw [← add_field _ _ 1 (by omega)]; exact hcc 1 _ rfl, by rw [← add_field _ _ 2 (by omega)]; exact hcc 2 _ rfl, hRc⟩
set_option maxHeartbeats 8000000 in
set_option maxRecDepth 1000000 in
theorem sheet_step.calls (title : ByteArray) (H W : Int) (A2 : Option Addr) (c2 : Nat) (bl : List Bool) (A3 : Option Addr) (c3 : Nat) (ri : List Bool) (A4 : Option Addr) (c4 : Nat) (be : List Bool) (A5 : Option Addr) (n5 c5 : Nat) (A6 : Option Addr) (n6 c6 : Nat) (A7 : Option Addr) (n7 c7 : Nat) (A8 : Option Addr) (n8 c8 : Nat) (at_ : Int) (dn : Bool) (d : Int) (w : World)
  (hg : GridIs H W A2 c2 bl A3 c3 ri A4 c4 be w) (ha : 0 ≤ at_ ∧ at_ < bl.length) (hd : -1 ≤ d ∧ d ≤ 1) :
  Calls Tryz.prog 68 #[.agg #[.string title, .int .i64 H, .int .i64 W, .slice A2 bl.length c2, .slice A3 ri.length c3, .slice A4 be.length c4, .slice A5 n5 c5, .slice A6 n6 c6], .agg #[.slice A7 n7 c7, .slice A8 n8 c8, .int .i64 at_, .bool dn], .int .i64 d] w fun e w' => e = .returned (.int .i64 (stepOf H W bl ri be at_ dn d)) ∧ Below w.heap.size w w' := by
 have hbl : bl.length ≤ 256 := by have := (mul_small (gcheck_ok hg.ok).1 (gcheck_ok hg.ok).2.1).2; have := (gcheck_ok hg.ok).2.2.1; omega
 have hsf := seatsOf_facts hg.ok
 have hrow : (∀ x ∈ seatRow H W bl ri be dn, SeatOk (slotsOf H W bl ri be).length bl.length x) ∧ (seatRow H W bl ri be dn).length = bl.length := by
  unfold seatRow
  cases dn
  ·exact ⟨hsf.1, hsf.2.2.1⟩
  ·exact ⟨hsf.2.1, hsf.2.2.2⟩
 have hok := hrow.1 _ (rd_seat ha.1 (by rw [hrow.2]; exact ha.2))
 have hS : slots_Seats.f H W bl ri be = some ((seatsOf H W bl ri be).1, (seatsOf H W bl ri be).2) := rfl
 replace hS := Lib.hid hS
 replace hsf := Lib.hid hsf
 replace hrow := Lib.hid hrow
 replace hok := Lib.hid hok
 replace hbl := Lib.hid hbl
 obtain ⟨ha0, ha1⟩ := ha
 have hu27 := Tryz.underlying42
 have hu24 := Tryz.underlying39
 have hx := box2 w (.cells #[.string title, .int .i64 H, .int .i64 W, .slice A2 bl.length c2, .slice A3 ri.length c3, .slice A4 be.length c4, .slice A5 n5 c5, .slice A6 n6 c6] 42) (.cells #[.slice A7 n7 c7, .slice A8 n8 c8, .int .i64 at_, .bool dn] 57)
 replace hx := Lib.hid hx
 cases dn with
 | false =>
  obtain ⟨seat, hseat⟩ : ∃ x, rd_T150 (seatsOf H W bl ri be).1 at_ = x := ⟨_, rfl⟩
  have hres : stepOf H W bl ri be at_ false d = stepSeat H W bl ri be seat at_ d := by rw [← hseat]; rfl
  have hok : SeatOk (slotsOf H W bl ri be).length bl.length seat := by rw [← hseat]; exact hok.out
  obtain ⟨hk1, hk2, hk3, hk4⟩ := hok
  rw [hres]
  clear hres hok
  replace hseat := Lib.hid hseat
  by_cases hneg : seat.f0 < 0
  ·have tn : decide (seat.f0 < 0) = true := decide_eq_true hneg
   have hfin : stepSeat H W bl ri be seat at_ d = at_ := by unfold stepSeat; rw [if_pos hneg]
   rw [hfin]
   clear hfin
   go_enter Tryz.func68, Tryz.ntmps68
   go_wp2_with (go_at_call 93; go_loud (refine (slots_Seats.calls _ _ _ _ _ _ _ _ _ _ _ _ _ _ (Kd.C_below hg.h2 hx.out.2.2) hg.c2 (Kd.C_below hg.h3 hx.out.2.2) hg.c3 (Kd.C_below hg.h4 hx.out.2.2) hg.c4 hS.out).mono ?_; rintro e w3 ⟨v0, v1, rfl, hr0, hr1, hb3⟩; have hP := blk_below hx.out.1 hb3; have hQ := blk_below hx.out.2.1 hb3; have hB := below_step hx.out.2.2 hb3; obtain ⟨p0, p1, p2, p3, p4, p5, p6, p7⟩ := cells8 hP; obtain ⟨q0, q1, q2, q3⟩ := cells4 hQ; have hz := blk_lt hQ; obtain ⟨B0, k0, rfl⟩ := Kd.R_slice hr0; have hC0 := (Kd.R_reads' hr0).2.2; obtain ⟨ad, eA, y0, y1⟩ := at_T150 hC0 at_ ha0 (by have := hsf.out.2.2.1; omega); cases eA; rw [hseat.out] at y0 y1; have hsf1 := hsf.out.2.2.1; rw [hsf1] at *; replace hP := Lib.hid hP; replace hQ := Lib.hid hQ; clear hr0 hr1 hb3 hC0))
   go_ret
   exact ⟨rfl, below_alloc hB _⟩
  ·have tn : decide (seat.f0 < 0) = false := decide_eq_false hneg
   have hf0 : 0 ≤ seat.f0 := by omega
   obtain ⟨cs, hcs⟩ : ∃ x, (rd_T137 (slotsOf H W bl ri be) seat.f0).f2 = x := ⟨_, rfl⟩
   have hfin : stepSeat H W bl ri be seat at_ d = if 0 ≤ seat.f1 + d ∧ seat.f1 + d < cs.length then rd cs (seat.f1 + d) else at_ := by unfold stepSeat; rw [if_neg hneg, hcs]
   rw [hfin]
   clear hfin
   obtain ⟨L, hL⟩ : ∃ L, slotsOf H W bl ri be = L := ⟨_, rfl⟩
   have hLs : slots_List.f H W bl ri be = some L := by unfold slots_List.f; rw [hL]
   rw [hL] at hcs hk2
   replace hcs := Lib.hid hcs
   replace hLs := Lib.hid hLs
   clear hL
   go_enter Tryz.func68, Tryz.ntmps68
   go_wp2_with (go_at_call 93; go_loud (refine (slots_Seats.calls _ _ _ _ _ _ _ _ _ _ _ _ _ _ (Kd.C_below hg.h2 hx.out.2.2) hg.c2 (Kd.C_below hg.h3 hx.out.2.2) hg.c3 (Kd.C_below hg.h4 hx.out.2.2) hg.c4 hS.out).mono ?_; rintro e w3 ⟨v0, v1, rfl, hr0, hr1, hb3⟩; have hP := blk_below hx.out.1 hb3; have hQ := blk_below hx.out.2.1 hb3; have hB := below_step hx.out.2.2 hb3; obtain ⟨p0, p1, p2, p3, p4, p5, p6, p7⟩ := cells8 hP; obtain ⟨q0, q1, q2, q3⟩ := cells4 hQ; have hz := blk_lt hQ; obtain ⟨B0, k0, rfl⟩ := Kd.R_slice hr0; have hC0 := (Kd.R_reads' hr0).2.2; obtain ⟨ad, eA, y0, y1⟩ := at_T150 hC0 at_ ha0 (by have := hsf.out.2.2.1; omega); cases eA; rw [hseat.out] at y0 y1; have hsf1 := hsf.out.2.2.1; rw [hsf1] at *; replace hP := Lib.hid hP; replace hQ := Lib.hid hQ; clear hr0 hr1 hb3 hC0))
   have hP4 := blk_alloc hP.out (.cells #[.int .i64 seat.f0, .int .i64 seat.f1] 150)
   have hQ4 := blk_alloc hQ.out (.cells #[.int .i64 seat.f0, .int .i64 seat.f1] 150)
   have hR4 := blk_new w3 (.cells #[.int .i64 seat.f0, .int .i64 seat.f1] 150)
   have hB4 := below_alloc hB (.cells #[.int .i64 seat.f0, .int .i64 seat.f1] 150)
   generalize w3.alloc (.cells #[.int .i64 seat.f0, .int .i64 seat.f1] 150) = w4 at hP4 hQ4 hR4 hB4 ⊢
   clear y0 y1 p0 p1 p2 p3 p4 p5 p6 p7 q0 q1 q2 q3 hB hP hQ hx
   replace hP4 := Lib.hid hP4
   replace hQ4 := Lib.hid hQ4
   replace hR4 := Lib.hid hR4
   replace hB4 := Lib.hid hB4
   have hg4 := hg.below hB4.out
   obtain ⟨r0, r1⟩ := cells2 hR4.out
   obtain ⟨p0, p1, p2, p3, p4, p5, p6, p7⟩ := cells8 hP4.out
   refine wp_region_noPanic ?_
   refine wp_region_held_drew (S := (fun w' => w'.cell? ⟨w.heap.size, 1, none⟩ = some (.int .i64 H) ∧ w'.cell? ⟨w.heap.size, 2, none⟩ = some (.int .i64 W) ∧ w'.cell? ⟨w.heap.size, 3, none⟩ = some (.slice A2 bl.length c2) ∧ w'.cell? ⟨w.heap.size, 4, none⟩ = some (.slice A3 ri.length c3) ∧ w'.cell? ⟨w.heap.size, 5, none⟩ = some (.slice A4 be.length c4) ∧ w'.cell? ⟨w3.heap.size, 0, none⟩ = some (.int .i64 seat.f0))) (by kernel_rfl) ?s1 (fun hHeld => ?_)
   case s1 => ((try dsimp only); go_keep)
   refine wpAnyH_take (i := 0) (oi := ?t2oi) (v := ?t2v) ?t2ho ?t2k1 ?t2k2 ?t2k3 (fun _ _ _ h => h) (Or.inl ⟨?t2kw, ?t2hy⟩) hHeld ?t2rest
   case t2ho => exact at_ops0 _ _
   case t2k1 => kernel_rfl
   case t2k2 => kernel_rfl
   case t2k3 => kernel_rfl
   case t2kw => rfl
   case t2hy => (intro w9 hS9; (try dsimp only at hS9); go_simp; try with_reducible rfl)
   try simp only [Act.put, List.setIfInBounds_toArray, List.set_cons_zero, List.set_cons_succ]
   refine wpAnyH_take (i := 1) (oi := ?t3oi) (v := ?t3v) ?t3ho ?t3k1 ?t3k2 ?t3k3 (fun _ _ _ h => h) (Or.inl ⟨?t3kw, ?t3hy⟩) hHeld ?t3rest
   case t3ho => exact at_ops1 _ _ _
   case t3k1 => kernel_rfl
   case t3k2 => kernel_rfl
   case t3k3 => kernel_rfl
   case t3kw => rfl
   case t3hy => (intro w9 hS9; (try dsimp only at hS9); go_simp; try with_reducible rfl)
   try simp only [Act.put, List.setIfInBounds_toArray, List.set_cons_zero, List.set_cons_succ]
   refine wpAnyH_take (i := 3) (oi := ?t4oi) (v := ?t4v) ?t4ho ?t4k1 ?t4k2 ?t4k3 (fun _ _ _ h => h) (Or.inl ⟨?t4kw, ?t4hy⟩) hHeld ?t4rest
   case t4ho => exact at_ops3 _ _ _ _ _
   case t4k1 => kernel_rfl
   case t4k2 => kernel_rfl
   case t4k3 => kernel_rfl
   case t4kw => rfl
   case t4hy => (intro w9 hS9; (try dsimp only at hS9); go_simp; try with_reducible rfl)
   try simp only [Act.put, List.setIfInBounds_toArray, List.set_cons_zero, List.set_cons_succ]
   refine wpAnyH_take (i := 4) (oi := ?t5oi) (v := ?t5v) ?t5ho ?t5k1 ?t5k2 ?t5k3 (fun _ _ _ h => h) (Or.inl ⟨?t5kw, ?t5hy⟩) hHeld ?t5rest
   case t5ho => exact at_ops4 _ _ _ _ _ _
   case t5k1 => kernel_rfl
   case t5k2 => kernel_rfl
   case t5k3 => kernel_rfl
   case t5kw => rfl
   case t5hy => (intro w9 hS9; (try dsimp only at hS9); go_simp; try with_reducible rfl)
   try simp only [Act.put, List.setIfInBounds_toArray, List.set_cons_zero, List.set_cons_succ]
   refine wpAnyH_ready (rs := [2]) (by kernel_rfl) (by simp) ?_
   refine AllReadyH.cons (at_ops2 _ _ _ _) (fun K hK => ?_) AllReadyH.nil
   go_simp
   (go_at_call 61; refine (slots_List.calls _ _ _ _ _ _ _ _ _ _ _ _ _ ?s1 hg.c2 ?s2 hg.c3 ?s3 hg.c4 hLs.out).mono ?_; (case s1 => exact Kd.C_drewN hg4.h2 1); (case s2 => exact Kd.C_drewN hg4.h3 1); (case s3 => exact Kd.C_drewN hg4.h4 1); rintro e w5 ⟨vL, rfl, hLr, hb5⟩; obtain ⟨ad2, k2, B2, k3, rfl, z0, z1, z2, hRc⟩ := slot_cells hLr seat.f0 hf0 hk2; rw [hcs.out] at z2 hRc)
   refine hK.out _ _ ?s6 (fun hHeld => ?_)
   case s6 => exact ⟨pw_cell_below hb5 p1, pw_cell_below hb5 p2, pw_cell_below hb5 p3, pw_cell_below hb5 p4, pw_cell_below hb5 p5, pw_cell_below hb5 r0⟩
   clear hK K
   try simp only [Act.put, List.setIfInBounds_toArray, List.set_cons_zero, List.set_cons_succ]
   refine wpAnyH_take (i := 5) (oi := ?t7oi) (v := ?t7v) ?t7ho ?t7k1 ?t7k2 ?t7k3 (fun _ _ _ h => h) (Or.inl ⟨?t7kw, ?t7hy⟩) hHeld ?t7rest
   case t7ho => exact at_ops5 _ _ _ _ _ _ _
   case t7k1 => kernel_rfl
   case t7k2 => kernel_rfl
   case t7k3 => kernel_rfl
   case t7kw => rfl
   case t7hy => (intro w9 hS9; (try dsimp only at hS9); go_simp; try with_reducible rfl)
   try simp only [Act.put, List.setIfInBounds_toArray, List.set_cons_zero, List.set_cons_succ]
   refine wpAnyH_take (i := 6) (oi := ?t8oi) (v := ?t8v) ?t8ho ?t8k1 ?t8k2 ?t8k3 (fun _ _ _ h => h) (Or.inl ⟨?t8kw, ?t8hy⟩) hHeld ?t8rest
   case t8ho => exact at_ops6 _ _ _ _ _ _ _ _
   case t8k1 => kernel_rfl
   case t8k2 => kernel_rfl
   case t8k3 => kernel_rfl
   case t8kw => rfl
   case t8hy => (intro w9 hS9; (try dsimp only at hS9); go_simp; try with_reducible rfl)
   try simp only [Act.put, List.setIfInBounds_toArray, List.set_cons_zero, List.set_cons_succ]
   refine wpAnyH_ready (rs := [7]) (by kernel_rfl) (by simp) ?_
   refine AllReadyH.cons (at_ops7 _ _ _ _ _ _ _ _ _) (fun K hK => ?_) AllReadyH.nil
   go_simp
   refine hK.out _ _ ?s9 (fun hHeld => ?_)
   case s9 => exact hHeld
   clear hK K
   try simp only [Act.put, List.setIfInBounds_toArray, List.set_cons_zero, List.set_cons_succ]
   refine wpAnyH_take (i := 8) (oi := ?t10oi) (v := ?t10v) ?t10ho ?t10k1 ?t10k2 ?t10k3 (fun _ _ _ h => h) (Or.inl ⟨?t10kw, ?t10hy⟩) hHeld ?t10rest
   case t10ho => exact at_ops8 _ _ _ _ _ _ _ _ _ _
   case t10k1 => kernel_rfl
   case t10k2 => kernel_rfl
   case t10k3 => kernel_rfl
   case t10kw => rfl
   case t10hy => (intro w9 hS9; (try dsimp only at hS9); go_simp; try with_reducible rfl)
   try simp only [Act.put, List.setIfInBounds_toArray, List.set_cons_zero, List.set_cons_succ]
   refine wpAnyH_done (by kernel_rfl) ?_ _
   refine NoPanic.normal ?_
   have hQ5 := blk_below (blk_drew hQ4.out) hb5
   have hR5 := blk_below (blk_drew hR4.out) hb5
   have hB5 := below_step (below_drew hB4.out) hb5
   obtain ⟨q0, q1, q2, q3⟩ := cells4 hQ5
   obtain ⟨s0, s1⟩ := cells2 hR5
   have hk5 : seat.f1 ≤ 256 := by have := hbl.out; omega
   have hd0 := hd.1
   have hd1 := hd.2
   have eS : wrap64 (seat.f1 + d) = seat.f1 + d := w64 (by omega) (by omega)
   replace hRc := Lib.hid hRc
   clear z0 z1 z2 r0 r1 p0 p1 p2 p3 p4 p5 p6 p7 hQ5 hR5 hb5 hLr
   by_cases hi : 0 ≤ seat.f1 + d
   ·have ti : decide (0 ≤ seat.f1 + d) = true := decide_eq_true hi
    by_cases hj : seat.f1 + d < cs.length
    ·have tj : decide (seat.f1 + d < (cs.length : Int)) = true := decide_eq_true hj
     obtain ⟨ad4, eA, zc⟩ := Kd.at_int (Kd.R_reads' hRc.out).2.2 (seat.f1 + d) hi hj
     cases eA
     go_wp2
     go_ret
     exact ⟨rfl, hB5⟩
    ·have tj : decide (seat.f1 + d < (cs.length : Int)) = false := decide_eq_false hj
     go_wp2
     go_ret
     exact ⟨rfl, hB5⟩
   ·have ti : decide (0 ≤ seat.f1 + d) = false := decide_eq_false hi
    go_wp2
    go_ret
    exact ⟨rfl, hB5⟩
 | true =>
  obtain ⟨seat, hseat⟩ : ∃ x, rd_T150 (seatsOf H W bl ri be).2 at_ = x := ⟨_, rfl⟩
  have hres : stepOf H W bl ri be at_ true d = stepSeat H W bl ri be seat at_ d := by rw [← hseat]; rfl
  have hok : SeatOk (slotsOf H W bl ri be).length bl.length seat := by rw [← hseat]; exact hok.out
  obtain ⟨hk1, hk2, hk3, hk4⟩ := hok
  rw [hres]
  clear hres hok
  replace hseat := Lib.hid hseat
  by_cases hneg : seat.f0 < 0
  ·have tn : decide (seat.f0 < 0) = true := decide_eq_true hneg
   have hfin : stepSeat H W bl ri be seat at_ d = at_ := by unfold stepSeat; rw [if_pos hneg]
   rw [hfin]
   clear hfin
   go_enter Tryz.func68, Tryz.ntmps68
   go_wp2_with (go_at_call 93; go_loud (refine (slots_Seats.calls _ _ _ _ _ _ _ _ _ _ _ _ _ _ (Kd.C_below hg.h2 hx.out.2.2) hg.c2 (Kd.C_below hg.h3 hx.out.2.2) hg.c3 (Kd.C_below hg.h4 hx.out.2.2) hg.c4 hS.out).mono ?_; rintro e w3 ⟨v0, v1, rfl, hr0, hr1, hb3⟩; have hP := blk_below hx.out.1 hb3; have hQ := blk_below hx.out.2.1 hb3; have hB := below_step hx.out.2.2 hb3; obtain ⟨p0, p1, p2, p3, p4, p5, p6, p7⟩ := cells8 hP; obtain ⟨q0, q1, q2, q3⟩ := cells4 hQ; have hz := blk_lt hQ; obtain ⟨B0, k0, rfl⟩ := Kd.R_slice hr1; have hC0 := (Kd.R_reads' hr1).2.2; obtain ⟨ad, eA, y0, y1⟩ := at_T150 hC0 at_ ha0 (by have := hsf.out.2.2.2; omega); cases eA; rw [hseat.out] at y0 y1; have hsf1 := hsf.out.2.2.2; rw [hsf1] at *; replace hP := Lib.hid hP; replace hQ := Lib.hid hQ; clear hr0 hr1 hb3 hC0))
   go_ret
   exact ⟨rfl, below_alloc hB _⟩
  ·have tn : decide (seat.f0 < 0) = false := decide_eq_false hneg
   have hf0 : 0 ≤ seat.f0 := by omega
   obtain ⟨cs, hcs⟩ : ∃ x, (rd_T137 (slotsOf H W bl ri be) seat.f0).f2 = x := ⟨_, rfl⟩
   have hfin : stepSeat H W bl ri be seat at_ d = if 0 ≤ seat.f1 + d ∧ seat.f1 + d < cs.length then rd cs (seat.f1 + d) else at_ := by unfold stepSeat; rw [if_neg hneg, hcs]
   rw [hfin]
   clear hfin
   obtain ⟨L, hL⟩ : ∃ L, slotsOf H W bl ri be = L := ⟨_, rfl⟩
   have hLs : slots_List.f H W bl ri be = some L := by unfold slots_List.f; rw [hL]
   rw [hL] at hcs hk2
   replace hcs := Lib.hid hcs
   replace hLs := Lib.hid hLs
   clear hL
   go_enter Tryz.func68, Tryz.ntmps68
   go_wp2_with (go_at_call 93; go_loud (refine (slots_Seats.calls _ _ _ _ _ _ _ _ _ _ _ _ _ _ (Kd.C_below hg.h2 hx.out.2.2) hg.c2 (Kd.C_below hg.h3 hx.out.2.2) hg.c3 (Kd.C_below hg.h4 hx.out.2.2) hg.c4 hS.out).mono ?_; rintro e w3 ⟨v0, v1, rfl, hr0, hr1, hb3⟩; have hP := blk_below hx.out.1 hb3; have hQ := blk_below hx.out.2.1 hb3; have hB := below_step hx.out.2.2 hb3; obtain ⟨p0, p1, p2, p3, p4, p5, p6, p7⟩ := cells8 hP; obtain ⟨q0, q1, q2, q3⟩ := cells4 hQ; have hz := blk_lt hQ; obtain ⟨B0, k0, rfl⟩ := Kd.R_slice hr1; have hC0 := (Kd.R_reads' hr1).2.2; obtain ⟨ad, eA, y0, y1⟩ := at_T150 hC0 at_ ha0 (by have := hsf.out.2.2.2; omega); cases eA; rw [hseat.out] at y0 y1; have hsf1 := hsf.out.2.2.2; rw [hsf1] at *; replace hP := Lib.hid hP; replace hQ := Lib.hid hQ; clear hr0 hr1 hb3 hC0))
   have hP4 := blk_alloc hP.out (.cells #[.int .i64 seat.f0, .int .i64 seat.f1] 150)
   have hQ4 := blk_alloc hQ.out (.cells #[.int .i64 seat.f0, .int .i64 seat.f1] 150)
   have hR4 := blk_new w3 (.cells #[.int .i64 seat.f0, .int .i64 seat.f1] 150)
   have hB4 := below_alloc hB (.cells #[.int .i64 seat.f0, .int .i64 seat.f1] 150)
   generalize w3.alloc (.cells #[.int .i64 seat.f0, .int .i64 seat.f1] 150) = w4 at hP4 hQ4 hR4 hB4 ⊢
   clear y0 y1 p0 p1 p2 p3 p4 p5 p6 p7 q0 q1 q2 q3 hB hP hQ hx
   replace hP4 := Lib.hid hP4
   replace hQ4 := Lib.hid hQ4
   replace hR4 := Lib.hid hR4
   replace hB4 := Lib.hid hB4
   have hg4 := hg.below hB4.out
   obtain ⟨r0, r1⟩ := cells2 hR4.out
   obtain ⟨p0, p1, p2, p3, p4, p5, p6, p7⟩ := cells8 hP4.out
   refine wp_region_noPanic ?_
   refine wp_region_held_drew (S := (fun w' => w'.cell? ⟨w.heap.size, 1, none⟩ = some (.int .i64 H) ∧ w'.cell? ⟨w.heap.size, 2, none⟩ = some (.int .i64 W) ∧ w'.cell? ⟨w.heap.size, 3, none⟩ = some (.slice A2 bl.length c2) ∧ w'.cell? ⟨w.heap.size, 4, none⟩ = some (.slice A3 ri.length c3) ∧ w'.cell? ⟨w.heap.size, 5, none⟩ = some (.slice A4 be.length c4) ∧ w'.cell? ⟨w3.heap.size, 0, none⟩ = some (.int .i64 seat.f0))) (by kernel_rfl) ?s11 (fun hHeld => ?_)
   case s11 => ((try dsimp only); go_keep)
   refine wpAnyH_take (i := 0) (oi := ?t12oi) (v := ?t12v) ?t12ho ?t12k1 ?t12k2 ?t12k3 (fun _ _ _ h => h) (Or.inl ⟨?t12kw, ?t12hy⟩) hHeld ?t12rest
   case t12ho => exact at_ops0 _ _
   case t12k1 => kernel_rfl
   case t12k2 => kernel_rfl
   case t12k3 => kernel_rfl
   case t12kw => rfl
   case t12hy => (intro w9 hS9; (try dsimp only at hS9); go_simp; try with_reducible rfl)
   try simp only [Act.put, List.setIfInBounds_toArray, List.set_cons_zero, List.set_cons_succ]
   refine wpAnyH_take (i := 1) (oi := ?t13oi) (v := ?t13v) ?t13ho ?t13k1 ?t13k2 ?t13k3 (fun _ _ _ h => h) (Or.inl ⟨?t13kw, ?t13hy⟩) hHeld ?t13rest
   case t13ho => exact at_ops1 _ _ _
   case t13k1 => kernel_rfl
   case t13k2 => kernel_rfl
   case t13k3 => kernel_rfl
   case t13kw => rfl
   case t13hy => (intro w9 hS9; (try dsimp only at hS9); go_simp; try with_reducible rfl)
   try simp only [Act.put, List.setIfInBounds_toArray, List.set_cons_zero, List.set_cons_succ]
   refine wpAnyH_take (i := 3) (oi := ?t14oi) (v := ?t14v) ?t14ho ?t14k1 ?t14k2 ?t14k3 (fun _ _ _ h => h) (Or.inl ⟨?t14kw, ?t14hy⟩) hHeld ?t14rest
   case t14ho => exact at_ops3 _ _ _ _ _
   case t14k1 => kernel_rfl
   case t14k2 => kernel_rfl
   case t14k3 => kernel_rfl
   case t14kw => rfl
   case t14hy => (intro w9 hS9; (try dsimp only at hS9); go_simp; try with_reducible rfl)
   try simp only [Act.put, List.setIfInBounds_toArray, List.set_cons_zero, List.set_cons_succ]
   refine wpAnyH_take (i := 4) (oi := ?t15oi) (v := ?t15v) ?t15ho ?t15k1 ?t15k2 ?t15k3 (fun _ _ _ h => h) (Or.inl ⟨?t15kw, ?t15hy⟩) hHeld ?t15rest
   case t15ho => exact at_ops4 _ _ _ _ _ _
   case t15k1 => kernel_rfl
   case t15k2 => kernel_rfl
   case t15k3 => kernel_rfl
   case t15kw => rfl
   case t15hy => (intro w9 hS9; (try dsimp only at hS9); go_simp; try with_reducible rfl)
   try simp only [Act.put, List.setIfInBounds_toArray, List.set_cons_zero, List.set_cons_succ]
   refine wpAnyH_ready (rs := [2]) (by kernel_rfl) (by simp) ?_
   refine AllReadyH.cons (at_ops2 _ _ _ _) (fun K hK => ?_) AllReadyH.nil
   go_simp
   (go_at_call 61; refine (slots_List.calls _ _ _ _ _ _ _ _ _ _ _ _ _ ?s1 hg.c2 ?s2 hg.c3 ?s3 hg.c4 hLs.out).mono ?_; (case s1 => exact Kd.C_drewN hg4.h2 1); (case s2 => exact Kd.C_drewN hg4.h3 1); (case s3 => exact Kd.C_drewN hg4.h4 1); rintro e w5 ⟨vL, rfl, hLr, hb5⟩; obtain ⟨ad2, k2, B2, k3, rfl, z0, z1, z2, hRc⟩ := slot_cells hLr seat.f0 hf0 hk2; rw [hcs.out] at z2 hRc)
   refine hK.out _ _ ?s16 (fun hHeld => ?_)
   case s16 => exact ⟨pw_cell_below hb5 p1, pw_cell_below hb5 p2, pw_cell_below hb5 p3, pw_cell_below hb5 p4, pw_cell_below hb5 p5, pw_cell_below hb5 r0⟩
   clear hK K
   try simp only [Act.put, List.setIfInBounds_toArray, List.set_cons_zero, List.set_cons_succ]
   refine wpAnyH_take (i := 5) (oi := ?t17oi) (v := ?t17v) ?t17ho ?t17k1 ?t17k2 ?t17k3 (fun _ _ _ h => h) (Or.inl ⟨?t17kw, ?t17hy⟩) hHeld ?t17rest
   case t17ho => exact at_ops5 _ _ _ _ _ _ _
   case t17k1 => kernel_rfl
   case t17k2 => kernel_rfl
   case t17k3 => kernel_rfl
   case t17kw => rfl
   case t17hy => (intro w9 hS9; (try dsimp only at hS9); go_simp; try with_reducible rfl)
   try simp only [Act.put, List.setIfInBounds_toArray, List.set_cons_zero, List.set_cons_succ]
   refine wpAnyH_take (i := 6) (oi := ?t18oi) (v := ?t18v) ?t18ho ?t18k1 ?t18k2 ?t18k3 (fun _ _ _ h => h) (Or.inl ⟨?t18kw, ?t18hy⟩) hHeld ?t18rest
   case t18ho => exact at_ops6 _ _ _ _ _ _ _ _
   case t18k1 => kernel_rfl
   case t18k2 => kernel_rfl
   case t18k3 => kernel_rfl
   case t18kw => rfl
   case t18hy => (intro w9 hS9; (try dsimp only at hS9); go_simp; try with_reducible rfl)
   try simp only [Act.put, List.setIfInBounds_toArray, List.set_cons_zero, List.set_cons_succ]
   refine wpAnyH_ready (rs := [7]) (by kernel_rfl) (by simp) ?_
   refine AllReadyH.cons (at_ops7 _ _ _ _ _ _ _ _ _) (fun K hK => ?_) AllReadyH.nil
   go_simp
   refine hK.out _ _ ?s19 (fun hHeld => ?_)
   case s19 => exact hHeld
   clear hK K
   try simp only [Act.put, List.setIfInBounds_toArray, List.set_cons_zero, List.set_cons_succ]
   refine wpAnyH_take (i := 8) (oi := ?t20oi) (v := ?t20v) ?t20ho ?t20k1 ?t20k2 ?t20k3 (fun _ _ _ h => h) (Or.inl ⟨?t20kw, ?t20hy⟩) hHeld ?t20rest
   case t20ho => exact at_ops8 _ _ _ _ _ _ _ _ _ _
   case t20k1 => kernel_rfl
   case t20k2 => kernel_rfl
   case t20k3 => kernel_rfl
   case t20kw => rfl
   case t20hy => (intro w9 hS9; (try dsimp only at hS9); go_simp; try with_reducible rfl)
   try simp only [Act.put, List.setIfInBounds_toArray, List.set_cons_zero, List.set_cons_succ]
   refine wpAnyH_done (by kernel_rfl) ?_ _
   refine NoPanic.normal ?_
   have hQ5 := blk_below (blk_drew hQ4.out) hb5
   have hR5 := blk_below (blk_drew hR4.out) hb5
   have hB5 := below_step (below_drew hB4.out) hb5
   obtain ⟨q0, q1, q2, q3⟩ := cells4 hQ5
   obtain ⟨s0, s1⟩ := cells2 hR5
   have hk5 : seat.f1 ≤ 256 := by have := hbl.out; omega
   have hd0 := hd.1
   have hd1 := hd.2
   have eS : wrap64 (seat.f1 + d) = seat.f1 + d := w64 (by omega) (by omega)
   replace hRc := Lib.hid hRc
   clear z0 z1 z2 r0 r1 p0 p1 p2 p3 p4 p5 p6 p7 hQ5 hR5 hb5 hLr
   by_cases hi : 0 ≤ seat.f1 + d
   ·have ti : decide (0 ≤ seat.f1 + d) = true := decide_eq_true hi
    by_cases hj : seat.f1 + d < cs.length
    ·have tj : decide (seat.f1 + d < (cs.length : Int)) = true := decide_eq_true hj
     obtain ⟨ad4, eA, zc⟩ := Kd.at_int (Kd.R_reads' hRc.out).2.2 (seat.f1 + d) hi hj
     cases eA
     go_wp2
     go_ret
     exact ⟨rfl, hB5⟩
    ·have tj : decide (seat.f1 + d < (cs.length : Int)) = false := decide_eq_false hj
     go_wp2
     go_ret
     exact ⟨rfl, hB5⟩
   ·have ti : decide (0 ≤ seat.f1 + d) = false := decide_eq_false hi
    go_wp2
    go_ret
    exact ⟨rfl, hB5⟩
end Go.Proofs.YtjopbfidjapmbaaGreatDoor.Q
end
section
namespace Go.Proofs.YtjopbfidjapmbaaGreatDoor.Q
open Go.RowKit Go.Proofs.YtjopbfidjapmbaaGreatDoorW.PrintWords Go.Proofs.YtjopbfidjapmbaaGreatDoorW.PrintLast Go.Proofs.YtjopbfidjapmbaaGreatDoorW.PrintMore
set_option linter.unusedVariables false
set_option linter.unusedSimpArgs false
open Go.Proofs.YtjopbfidjapmbaaGreatDoorS
structure PuzR (A2 : Option Addr) (c2 : Nat) (bl : List Bool) (A3 : Option Addr) (c3 : Nat) (ri : List Bool) (A4 : Option Addr) (c4 : Nat) (be : List Bool) (A5 : Option Addr) (c5 : Nat) (cells : List ByteArray) (A6 : Option Addr) (c6 : Nat) (clues : List ByteArray) (w : World) : Prop where
  r2 : Kd.C Kd.bool w A2 bl.length bl
  k2 : bl.length ≤ c2
  r3 : Kd.C Kd.bool w A3 ri.length ri
  k3 : ri.length ≤ c3
  r4 : Kd.C Kd.bool w A4 be.length be
  k4 : be.length ≤ c4
  r5 : Kd.C Kd.string w A5 cells.length cells
  k5 : cells.length ≤ c5
  r6 : Kd.C Kd.string w A6 clues.length clues
  k6 : clues.length ≤ c6
theorem PuzR.below {A2 : Option Addr} {c2 : Nat} {bl : List Bool} {A3 : Option Addr} {c3 : Nat} {ri : List Bool} {A4 : Option Addr} {c4 : Nat} {be : List Bool} {A5 : Option Addr} {c5 : Nat} {cells : List ByteArray} {A6 : Option Addr} {c6 : Nat} {clues : List ByteArray} {w w' : World} (h : PuzR A2 c2 bl A3 c3 ri A4 c4 be A5 c5 cells A6 c6 clues w) (hb : Below w.heap.size w w') : PuzR A2 c2 bl A3 c3 ri A4 c4 be A5 c5 cells A6 c6 clues w' :=
  ⟨Kd.C_below h.r2 hb, h.k2, Kd.C_below h.r3 hb, h.k3, Kd.C_below h.r4 hb, h.k4, Kd.C_below h.r5 hb, h.k5, Kd.C_below h.r6 hb, h.k6⟩
theorem PuzR.grid {H W : Int} {A2 : Option Addr} {c2 : Nat} {bl : List Bool} {A3 : Option Addr} {c3 : Nat} {ri : List Bool} {A4 : Option Addr} {c4 : Nat} {be : List Bool} {A5 : Option Addr} {c5 : Nat} {cells : List ByteArray} {A6 : Option Addr} {c6 : Nat} {clues : List ByteArray} {w : World} (h : PuzR A2 c2 bl A3 c3 ri A4 c4 be A5 c5 cells A6 c6 clues w) (hg : gcheck H W bl ri be = 0) : GridIs H W A2 c2 bl A3 c3 ri A4 c4 be w := ⟨h.r2, h.k2, h.r3, h.k3, h.r4, h.k4, hg⟩
structure ShtR (A7 : Option Addr) (c7 : Nat) (sc : List ByteArray) (A8 : Option Addr) (c8 : Nat) (ss : List Bool) (w : World) : Prop where
  r7 : Kd.C Kd.string w A7 sc.length sc
  k7 : sc.length ≤ c7
  r8 : Kd.C Kd.bool w A8 ss.length ss
  k8 : ss.length ≤ c8
theorem ShtR.below {A7 : Option Addr} {c7 : Nat} {sc : List ByteArray} {A8 : Option Addr} {c8 : Nat} {ss : List Bool} {w w' : World} (h : ShtR A7 c7 sc A8 c8 ss w) (hb : Below w.heap.size w w') : ShtR A7 c7 sc A8 c8 ss w' :=
  ⟨Kd.C_below h.r7 hb, h.k7, Kd.C_below h.r8 hb, h.k8⟩
structure PuzS (title : ByteArray) (cells clues : List ByteArray) : Prop where
  t : title.size ≤ 1048576
  s : Small cells
  c : Small clues
  l : cells.length ≤ 1048576
  m : clues.length ≤ 1048576
theorem pbad_step {bl : List Bool} {cells : List ByteArray} {n i : Nat} (hi : i < n) : pbad bl cells (n - i) i = (pbad1 bl cells i || pbad bl cells (n - (i + 1)) (i + 1)) := by
  obtain ⟨d, hd⟩ : ∃ d, n - i = d + 1 := ⟨n - i - 1, by omega⟩
  rw [hd, show n - (i + 1) = d by omega]
  rfl
set_option maxHeartbeats 8000000 in
set_option maxRecDepth 1000000 in
theorem page_calls {title : ByteArray} {H W : Int} {A2 : Option Addr} {c2 : Nat} {bl : List Bool} {A3 : Option Addr} {c3 : Nat} {ri : List Bool} {A4 : Option Addr} {c4 : Nat} {be : List Bool} {A5 : Option Addr} {c5 : Nat} {cells : List ByteArray} {A6 : Option Addr} {c6 : Nat} {clues : List ByteArray} {w : World} (hT : Tabs w) (hP : PuzR A2 c2 bl A3 c3 ri A4 c4 be A5 c5 cells A6 c6 clues w) (hz : PuzS title cells clues) :
    Calls Tryz.prog 49 #[.agg #[.string title, .int .i64 H, .int .i64 W, .slice A2 bl.length c2, .slice A3 ri.length c3, .slice A4 be.length c4, .slice A5 cells.length c5, .slice A6 clues.length c6]] w fun e w' => e = .returned (.int .i64 (pcheck title H W bl ri be cells clues)) ∧ Below w.heap.size w w' := by
  have hx := box1 w (.cells #[.string title, .int .i64 H, .int .i64 W, .slice A2 bl.length c2, .slice A3 ri.length c3, .slice A4 be.length c4, .slice A5 cells.length c5, .slice A6 clues.length c6] 42)
  replace hx := Lib.hid hx
  have hu27 := Tryz.underlying42
  have hu24 := Tryz.underlying39
  by_cases hg : gcheck H W bl ri be = 0
  · have hgk := grid_Check_eq H W bl ri be (bl.length + 3) (Nat.le_refl _)
    rw [hg] at hgk
    replace hgk := Lib.hid hgk
    have tg0 : ((0 : Int) != 0) = false := rfl
    have hz0 := hz
    replace hz := Lib.hid hz
    by_cases hs : cells.length = bl.length
    · have t1 : ((cells.length : Int) != (bl.length : Int)) = false := by rw [hs]; simp
      have t1b : (cells.length != bl.length) = false := by rw [hs]; simp
      have hv : pcheck title H W bl ri be cells clues = (if pbad bl cells cells.length 0 then 33 else if clues.length = (slotsOf H W bl ri be).length then (if (clues ++ [title]).all uline then 0 else 221) else 160) := by unfold pcheck; rw [if_pos hg, if_pos hs]
      rw [hv]
      clear hv
      obtain ⟨V, hV0⟩ : ∃ V, (if pbad bl cells cells.length 0 then (33 : Int) else if clues.length = (slotsOf H W bl ri be).length then (if (clues ++ [title]).all uline then 0 else 221) else 160) = V := ⟨_, rfl⟩
      rw [hV0]
      replace hV0 := Lib.hid hV0
      replace hg := Lib.hid hg
      replace hs := Lib.hid hs
      go_enter Tryz.func49, Tryz.ntmps49
      go_wp2_with (first
        | (go_at_call 59; go_must (have hPx := hP.below hx.out.2; refine (grid_Check.calls _ _ _ _ _ _ _ _ _ _ _ _ _ _ hPx.r2 hPx.k2 hPx.r3 hPx.k3 hPx.r4 hPx.k4 hgk.out).mono ?_; clear hPx; rintro e w3 ⟨rfl, hb3⟩; have hB3 := Lib.hid (below_step hx.out.2 hb3); have bP := Lib.hid (blk_below hx.out.1 hb3); have p3 := cells8 bP.out; clear hb3)))
      go_loopw [25] (fun v4 wr => ∃ (i : Nat) (q : Int), v4 = .int .i64 q ∧ Hid (q = i ∧ i ≤ cells.length) ∧ Hid (pbad bl cells cells.length 0 = pbad bl cells (cells.length - i) i) ∧ Hid (wr.heap[w.heap.size]? = some (.cells #[.string title, .int .i64 H, .int .i64 W, .slice A2 bl.length c2, .slice A3 ri.length c3, .slice A4 be.length c4, .slice A5 cells.length c5, .slice A6 clues.length c6] 42 (0, 0))) ∧ Hid (Below w.heap.size w wr)) (fun v4 _ => cells.length - (intOf v4).toNat)
      case atStart => exact ⟨0, 0, rfl, Lib.hid ⟨rfl, Nat.zero_le _⟩, Lib.hid rfl, bP, hB3⟩
      case round =>
        clear hB3 bP p3 t1 t1b
        obtain ⟨i, q, rfl, hq, hpb, bP, hB⟩ := hrel
        have p4 := cells8 bP.out
        have y4 := blk_lt bP.out
        by_cases hlt : i < cells.length
        · have hq0 : 0 ≤ q := by have := hq.out; omega
          have hq1 : q < (cells.length : Int) := by have := hq.out; omega
          have hq2 : q < (bl.length : Int) := by have := hs.out; omega
          have hq3 : q < 1048576 := by have := hz.out.l; omega
          obtain ⟨ad, eA, zx⟩ := Kd.at_string (hP.below hB.out).r5 q hq0 hq1
          obtain ⟨ad2, eA2, zb⟩ := Kd.at_bool (hP.below hB.out).r2 q hq0 hq2
          cases eA
          cases eA2
          obtain ⟨xa, hxa⟩ : ∃ x, rdOf ByteArray.empty cells q = x := ⟨_, rfl⟩
          obtain ⟨bb, hbb⟩ : ∃ x, rdOf false bl q = x := ⟨_, rfl⟩
          have hxs : xa.size ≤ 1048576 := by rw [← hxa, hq.out.1]; exact hz.out.s.rd hlt
          have hst := pbad_step (bl := bl) (cells := cells) hlt
          have e1 : pbad1 bl cells i = (!xa.toList.isEmpty && (bb || !uletter xa)) := by unfold pbad1; rw [← hq.out.1, hxa, hbb]
          rw [e1] at hst
          rw [hxa] at zx
          rw [hbb] at zb
          clear hxa hbb e1
          by_cases hne : xa.toList = []
          · have te : xa.toList.isEmpty = true := by rw [hne]; rfl
            rw [te] at hst
            have hE : pbad bl cells cells.length 0 = pbad bl cells (cells.length - (i + 1)) (i + 1) := by rw [hpb.out, hst]; rfl
            replace hE := Lib.hid hE
            replace hlt := Lib.hid hlt
            clear hst hne hpb
            go_wp2
            refine ⟨⟨i + 1, q + 1, rfl, Lib.hid ⟨by have := hq.out; omega, hlt.out⟩, hE, bP, hB⟩, ?_⟩
            simp only [intOf]; have := hq.out; have := hlt.out; omega
          · have te : xa.toList.isEmpty = false := toList_nil.2 hne
            rw [te] at hst
            clear hne
            cases bb with
            | true =>
              have hE : pbad bl cells cells.length 0 = true := by rw [hpb.out, hst]; rfl
              rw [hE] at hpb
              replace hE := Lib.hid hE
              clear hst hpb
              go_wp2
              go_ret
              exact ⟨by rw [← hV0.out, hE.out]; rfl, hB.out⟩
            | false =>
              cases hle : uletter xa with
              | false =>
                have hE : pbad bl cells cells.length 0 = true := by rw [hpb.out, hst, hle]; rfl
                replace hE := Lib.hid hE
                replace hle := Lib.hid hle
                clear hst hpb
                go_wp2_with (first
                  | (go_at_call 60; go_must (refine (page_letter.calls xa _ _ (by unfold page_letter.f; rw [if_pos (by omega), hle.out])).mono ?_; rintro e w5 ⟨rfl, hb5⟩)))
                go_ret
                exact ⟨by rw [← hV0.out, hE.out]; rfl, below_step hB.out hb5⟩
              | true =>
                have hE : pbad bl cells cells.length 0 = pbad bl cells (cells.length - (i + 1)) (i + 1) := by rw [hpb.out, hst, hle]; rfl
                replace hE := Lib.hid hE
                replace hle := Lib.hid hle
                replace hlt := Lib.hid hlt
                clear hst hpb
                go_wp2_with (first
                  | (go_at_call 60; go_must (refine (page_letter.calls xa _ _ (by unfold page_letter.f; rw [if_pos (by omega), hle.out])).mono ?_; rintro e w5 ⟨rfl, hb5⟩)))
                refine ⟨⟨i + 1, q + 1, rfl, Lib.hid ⟨by have := hq.out; omega, hlt.out⟩, hE, Lib.hid (blk_below bP.out hb5), Lib.hid (below_step hB.out hb5)⟩, ?_⟩
                simp only [intOf]; have := hq.out; have := hlt.out; omega
        · have hge : ¬ q < (cells.length : Int) := by have := hq.out; omega
          have hE : pbad bl cells cells.length 0 = false := by rw [hpb.out, show cells.length - i = 0 by have := hq.out; omega]; rfl
          clear hpb
          obtain ⟨L, hL⟩ : ∃ L, slotsOf H W bl ri be = L := ⟨_, rfl⟩
          replace hE := Lib.hid hE
          replace hL := Lib.hid hL
          obtain ⟨q0, q1, q2, q3, q4, q5, q6, q7⟩ := p4
          go_wp2
          refine wp_region_noPanic ?_
          refine wp_region_held_drew (S := (fun w' => w'.cell? ⟨w.heap.size, 1, none⟩ = some (.int .i64 H) ∧ w'.cell? ⟨w.heap.size, 2, none⟩ = some (.int .i64 W) ∧ w'.cell? ⟨w.heap.size, 3, none⟩ = some (.slice A2 bl.length c2) ∧ w'.cell? ⟨w.heap.size, 4, none⟩ = some (.slice A3 ri.length c3) ∧ w'.cell? ⟨w.heap.size, 5, none⟩ = some (.slice A4 be.length c4) ∧ w'.cell? ⟨w.heap.size, 7, none⟩ = some (.slice A6 clues.length c6))) (by kernel_rfl) ?s1 (fun hHeld => ?_)
          case s1 => ((try dsimp only); go_keep)
          refine wpAnyH_take (i := 0) (oi := ?q0oi) (v := ?q0v) ?q0ho ?q0k1 ?q0k2 ?q0k3 (fun _ _ _ h => h) (Or.inl ⟨?q0kw, ?q0hy⟩) hHeld ?q0rest
          case q0ho => exact at_ops0 _ _
          case q0k1 => kernel_rfl
          case q0k2 => kernel_rfl
          case q0k3 => kernel_rfl
          case q0kw => rfl
          case q0hy => (intro w9 hS9; (try dsimp only at hS9); go_simp; try with_reducible rfl)
          try simp only [Act.put, List.setIfInBounds_toArray, List.set_cons_zero, List.set_cons_succ]
          refine wpAnyH_take (i := 1) (oi := ?q1oi) (v := ?q1v) ?q1ho ?q1k1 ?q1k2 ?q1k3 (fun _ _ _ h => h) (Or.inl ⟨?q1kw, ?q1hy⟩) hHeld ?q1rest
          case q1ho => exact at_ops1 _ _ _
          case q1k1 => kernel_rfl
          case q1k2 => kernel_rfl
          case q1k3 => kernel_rfl
          case q1kw => rfl
          case q1hy => (intro w9 hS9; (try dsimp only at hS9); go_simp; try with_reducible rfl)
          try simp only [Act.put, List.setIfInBounds_toArray, List.set_cons_zero, List.set_cons_succ]
          refine wpAnyH_take (i := 2) (oi := ?q2oi) (v := ?q2v) ?q2ho ?q2k1 ?q2k2 ?q2k3 (fun _ _ _ h => h) (Or.inl ⟨?q2kw, ?q2hy⟩) hHeld ?q2rest
          case q2ho => exact at_ops2 _ _ _ _
          case q2k1 => kernel_rfl
          case q2k2 => kernel_rfl
          case q2k3 => kernel_rfl
          case q2kw => rfl
          case q2hy => (intro w9 hS9; (try dsimp only at hS9); go_simp; try with_reducible rfl)
          try simp only [Act.put, List.setIfInBounds_toArray, List.set_cons_zero, List.set_cons_succ]
          refine wpAnyH_take (i := 3) (oi := ?q3oi) (v := ?q3v) ?q3ho ?q3k1 ?q3k2 ?q3k3 (fun _ _ _ h => h) (Or.inl ⟨?q3kw, ?q3hy⟩) hHeld ?q3rest
          case q3ho => exact at_ops3 _ _ _ _ _
          case q3k1 => kernel_rfl
          case q3k2 => kernel_rfl
          case q3k3 => kernel_rfl
          case q3kw => rfl
          case q3hy => (intro w9 hS9; (try dsimp only at hS9); go_simp; try with_reducible rfl)
          try simp only [Act.put, List.setIfInBounds_toArray, List.set_cons_zero, List.set_cons_succ]
          refine wpAnyH_take (i := 4) (oi := ?q4oi) (v := ?q4v) ?q4ho ?q4k1 ?q4k2 ?q4k3 (fun _ _ _ h => h) (Or.inl ⟨?q4kw, ?q4hy⟩) hHeld ?q4rest
          case q4ho => exact at_ops4 _ _ _ _ _ _
          case q4k1 => kernel_rfl
          case q4k2 => kernel_rfl
          case q4k3 => kernel_rfl
          case q4kw => rfl
          case q4hy => (intro w9 hS9; (try dsimp only at hS9); go_simp; try with_reducible rfl)
          try simp only [Act.put, List.setIfInBounds_toArray, List.set_cons_zero, List.set_cons_succ]
          refine wpAnyH_ready (rs := [5]) (by kernel_rfl) (by simp) ?_
          refine AllReadyH.cons (at_ops5 _ _ _ _ _ _ _) (fun K hK => ?_) AllReadyH.nil
          go_simp
          (go_at_call 61; have hPy := hP.below (below_drew hB.out); refine (slots_List.calls _ _ _ _ _ _ _ _ _ _ _ _ _ hPy.r2 hPy.k2 hPy.r3 hPy.k3 hPy.r4 hPy.k4 (show slots_List.f H W bl ri be = some L by unfold slots_List.f; rw [hL.out])).mono ?_; clear hPy; rintro e w6 ⟨vL, rfl, hLr, hbL⟩; obtain ⟨AL, cL, rfl⟩ := Kd.S_slice hLr)
          refine hK.out _ _ ?r5 (fun hHeld => ?_)
          case r5 => exact ⟨pw_cell_below hbL q1, pw_cell_below hbL q2, pw_cell_below hbL q3, pw_cell_below hbL q4, pw_cell_below hbL q5, pw_cell_below hbL q7⟩
          clear hK K
          try simp only [Act.put, List.setIfInBounds_toArray, List.set_cons_zero, List.set_cons_succ]
          refine wpAnyH_take (i := 6) (oi := ?q6oi) (v := ?q6v) ?q6ho ?q6k1 ?q6k2 ?q6k3 (fun _ _ _ h => h) (Or.inl ⟨?q6kw, ?q6hy⟩) hHeld ?q6rest
          case q6ho => exact at_ops6 _ _ _ _ _ _ _ _
          case q6k1 => kernel_rfl
          case q6k2 => kernel_rfl
          case q6k3 => kernel_rfl
          case q6kw => rfl
          case q6hy => (intro w9 hS9; (try dsimp only at hS9); go_simp; try with_reducible rfl)
          try simp only [Act.put, List.setIfInBounds_toArray, List.set_cons_zero, List.set_cons_succ]
          refine wpAnyH_take (i := 7) (oi := ?q7oi) (v := ?q7v) ?q7ho ?q7k1 ?q7k2 ?q7k3 (fun _ _ _ h => h) (Or.inl ⟨?q7kw, ?q7hy⟩) hHeld ?q7rest
          case q7ho => exact at_ops7 _ _ _ _ _ _ _ _ _
          case q7k1 => kernel_rfl
          case q7k2 => kernel_rfl
          case q7k3 => kernel_rfl
          case q7kw => rfl
          case q7hy => (intro w9 hS9; (try dsimp only at hS9); go_simp; try with_reducible rfl)
          try simp only [Act.put, List.setIfInBounds_toArray, List.set_cons_zero, List.set_cons_succ]
          refine wpAnyH_done (by kernel_rfl) ?_ _
          refine NoPanic.normal ?_
          clear q0 q1 q2 q3 q4 q5 q6 q7
          have hB6 := Lib.hid (below_step (below_drew hB.out) hbL)
          have bP6 := Lib.hid (blk_below (blk_drew bP.out) hbL)
          have p6 := cells8 bP6.out
          clear hLr hbL
          by_cases hcl : clues.length = L.length
          · have t5 : ((clues.length : Int) != (L.length : Int)) = false := by rw [hcl]; simp
            have t5b : (clues.length != L.length) = false := by rw [hcl]; simp
            have hV : V = (if (clues ++ [title]).all uline then 0 else 221) := by
              rw [← hV0.out, hE.out, hL.out, if_pos hcl]
              rfl
            obtain ⟨l, hl⟩ : ∃ l, clues ++ [title] = l := ⟨_, rfl⟩
            rw [hl] at hV
            replace hl := Lib.hid hl
            replace hV := Lib.hid hV
            replace hcl := Lib.hid hcl
            go_wp2
            refine start_ (n := 9) (S := fun w' => w'.cell? ⟨w.heap.size, 0, none⟩ = some (.string title) ∧ w'.cell? ⟨w.heap.size, 7, none⟩ = some (.slice A6 clues.length c6)) (ds := []) #[false, false, false, false, false, false, false, false, false] (by kernel_rfl) rfl rfl ⟨(blk_cell (blk_drew bP6.out) 0).trans rfl, (blk_cell (blk_drew bP6.out) 7).trans rfl⟩ (fun hHeld => ?_)
            have bP := blk_drew bP6.out
            have hB := below_drew hB6.out
            generalize w6.drew = w7 at bP hB hHeld ⊢
            have hcm := hz0.m
            refine pure_ (i := 0) (N := some 54) (v := ?_) (a' := ?_) #[true, false, false, false, false, false, false, false, false] rfl rfl (by kernel_rfl) (fun _ _ _ h => h) (Or.inl ⟨by rfl, ?_⟩) ?_ ?_
            rotate_left
            · intro w'; go_simp; try with_reducible rfl
            rotate_left
            · simp only [Act.put, List.setIfInBounds_toArray, List.set_cons_zero, List.set_cons_succ, i64_w, i32_w]; rfl
            refine pure_ (i := 3) (N := some 57) (v := ?_) (a' := ?_) #[true, false, false, true, false, false, false, false, false] rfl rfl (by kernel_rfl) (fun _ _ _ h => h) (Or.inl ⟨by rfl, ?_⟩) ?_ ?_
            rotate_left
            · intro w'; go_simp; try with_reducible rfl
            rotate_left
            · simp only [Act.put, List.setIfInBounds_toArray, List.set_cons_zero, List.set_cons_succ, i64_w, i32_w]; rfl
            refine take_ (i := 1) (N := some 55) (v := ?_) (a' := ?_) #[true, true, false, true, false, false, false, false, false] rfl rfl (by kernel_rfl) (fun _ _ _ h => h) (Or.inl ⟨by rfl, ?_⟩) hHeld ?_ ?_
            rotate_left
            · intro w' s0; (try dsimp only at s0); go_simp; try with_reducible rfl
            rotate_left
            · simp only [Act.put, List.setIfInBounds_toArray, List.set_cons_zero, List.set_cons_succ, i64_w, i32_w]; rfl
            refine take_ (i := 4) (N := some 58) (v := ?_) (a' := ?_) #[true, true, false, true, true, false, false, false, false] rfl rfl (by kernel_rfl) (fun _ _ _ h => h) (Or.inl ⟨by rfl, ?_⟩) hHeld ?_ ?_
            rotate_left
            · intro w' s0; (try dsimp only at s0); go_simp; try with_reducible rfl
            rotate_left
            · simp only [Act.put, List.setIfInBounds_toArray, List.set_cons_zero, List.set_cons_succ, i64_w, i32_w]; rfl
            refine pure_ (i := 8) (N := some 62) (v := ?_) (a' := ?_) #[true, true, false, true, true, false, false, false, true] rfl rfl (by kernel_rfl) (fun _ _ _ h => h) (Or.inl ⟨by rfl, ?_⟩) ?_ ?_
            rotate_left
            · intro w'; go_simp; try with_reducible rfl
            rotate_left
            · simp only [Act.put, List.setIfInBounds_toArray, List.set_cons_zero, List.set_cons_succ, i64_w, i32_w]; rfl
            refine two_ (i := 2) (j := 5) (Ni := some 56) (Nj := some 59) #[true, true, true, true, true, false, false, false, true] #[true, true, false, true, true, true, false, false, true] rfl rfl rfl rfl (by kernel_rfl) (by decide) (by decide) (fun K hK => ?_) (fun K hK => ?_)
            · refine goes_ Tryz.func38 (by kernel_rfl) rfl #[.slice A6 clues.length c6] (by rfl) rfl rfl (by first | (go_simp; done) | (go_simp; rfl)) ?_
              refine (slices_Clone_string_string.calls _ _ clues clues _ (hP.below hB).r6 hP.k6 (by unfold slices_Clone_string_string.f; rw [if_pos (by omega)])).mono ?_
              rintro e _ ⟨v2, rfl, ho, hb⟩
              have RX := Kd.R_lower ho (below_size hB)
              have bP := blk_below bP hb
              have hB := below_step hB hb
              clear ho hb
              obtain ⟨B2, b2, rfl⟩ := Kd.R_slice RX
              refine ⟨_, rfl, ?_⟩
              refine hK.out _ _ ⟨(blk_cell bP 0).trans rfl, (blk_cell bP 7).trans rfl⟩ (fun hHeld => ?_)
              clear hK K
              refine norm_ (a' := ?_) ?_ ?_
              rotate_left
              · show Act.put _ (some 56) _ = _
                simp only [Act.put, List.setIfInBounds_toArray, List.set_cons_zero, List.set_cons_succ, i64_w, i32_w]
                rfl
              refine one_ (i := 5) (N := some 59) #[true, true, true, true, true, true, false, false, true] rfl rfl (by kernel_rfl) (by decide) (fun K hK => ?_)
              refine Kd.R_lit_step Kd.string _ 9 ?hg (N := 59) ?hd (xs := ([title] : List ByteArray)) (inner := [.string title]) (ok := fun _ => True) (okp := fun _ => True) ?hr ?hp (fun _ hk => hk) trivial (Below.refl _ _) (Nat.le_refl _) (by simp) ?_; (case hd => rfl); (case hg => rfl); (case hr => first | (go_simp; done) | (go_simp; rfl)); (case hp => exact (Reps.one (show Kd.M Kd.string _ _ _ title [.string title] from rfl) (Reps.none _ _)))
              intro v5 _ ho hb _ _
              have RY := Kd.R_lower ho (below_size hB)
              have RX := Kd.R_below RX hb
              have bP := blk_below bP hb
              have hB := below_step hB hb
              clear ho hb
              obtain ⟨B5, b5, rfl⟩ := Kd.R_slice RY
              refine hK.out _ _ ⟨(blk_cell bP 0).trans rfl, (blk_cell bP 7).trans rfl⟩ (fun hHeld => ?_)
              clear hK K
              refine norm_ (a' := ?_) ?_ ?_
              rotate_left
              · show Act.put _ (some 59) _ = _
                simp only [Act.put, List.setIfInBounds_toArray, List.set_cons_zero, List.set_cons_succ, i64_w, i32_w]
                rfl
              refine one_ (i := 6) (N := some 60) #[true, true, true, true, true, true, true, false, true] rfl rfl (by kernel_rfl) (by decide) (fun K hK => ?_)
              refine Kd.R_append_rows_step Kd.string (w0 := w) w.heap.size (by rfl) (.tmp 56) (.tmp 59) 40 9 (.string ⟨#[]⟩) 16 rfl Tryz.underlying40 str_info rfl (by decide) (by decide) (.slice B2 clues.length b2) clues [title] _ _ _ (fun _ => True) (fun _ => False) rfl rfl ?aO ?aR (fun _ _ h => h) (fun _ h => h.elim) ?aF ?aB ?aS ?aL ?_
              (case aR => exact (Kd.R_reads' RY).2.2)
              (case aB => exact hB)
              (case aF => exact (fun _ _ => trivial))
              (case aO => exact RX)
              (case aS => exact below_size hB)
              (case aL => have := hz0.m; simp only [List.length_singleton]; omega)
              intro v6 w9 ho hb hg _
              rw [hl.out] at ho
              have bP := blk_grown bP hg (Kd.R_ne RX bP (by decide))
              clear RX RY hg
              obtain ⟨B6, b6, rfl⟩ := Kd.R_slice ho
              refine hK.out _ _ ⟨(blk_cell bP 0).trans rfl, (blk_cell bP 7).trans rfl⟩ (fun hHeld => ?_)
              clear hK K
              refine norm_ (a' := ?_) ?_ ?_
              rotate_left
              · show Act.put _ (some 60) _ = _
                simp only [Act.put, List.setIfInBounds_toArray, List.set_cons_zero, List.set_cons_succ, i64_w, i32_w]
                rfl
              refine pure_ (i := 7) (N := some 61) (v := ?_) (a' := ?_) #[true, true, true, true, true, true, true, true, true] rfl rfl (by kernel_rfl) (fun _ _ _ h => h) (Or.inl ⟨by rfl, ?_⟩) ?_ ?_
              rotate_left
              · intro w'; go_simp; try with_reducible rfl
              rotate_left
              · simp only [Act.put, List.setIfInBounds_toArray, List.set_cons_zero, List.set_cons_succ, i64_w, i32_w]; rfl
              refine done_ (by kernel_rfl) ?_
              clear p6 hB6 bP6 bP hB
              have hls : ∀ s ∈ l, s.size ≤ 1048576 := by
                intro s hs
                rw [← hl.out] at hs
                rcases List.mem_append.1 hs with h | h
                · exact hz0.c s h
                · rw [List.mem_singleton.1 h]; exact hz0.t
              have hll : l.length ≤ 1048577 := by rw [← hl.out, List.length_append, List.length_singleton]; have := hz0.m; omega
              replace hls := Lib.hid hls
              replace ho := Lib.hid ho
              go_wp2
              rw [t5, show ([title] : List ByteArray).length = 1 from rfl]
              go_loopw [62] (fun v5 wi => ∃ (j : Nat) (x : Int), v5 = .int .i64 x ∧ Hid (x = j ∧ j ≤ l.length) ∧ Hid (l.all uline = (l.drop j).all uline) ∧ Hid (Below w9.heap.size w9 wi)) (fun v5 _ => l.length - (intOf v5).toNat)
              case atStart => exact ⟨0, 0, rfl, Lib.hid ⟨rfl, Nat.zero_le _⟩, Lib.hid (by rw [List.drop_zero]), Lib.hid (Below.refl _ _)⟩
              case round =>
                obtain ⟨j, x, rfl, hj, ha, hBi⟩ := hrel
                by_cases hjl : j < l.length
                · have hx0 : 0 ≤ x := by have := hj.out; omega
                  have hx1 : x < (l.length : Int) := by have := hj.out; omega
                  have hx3 : x < 1048577 := by omega
                  obtain ⟨ad, eA, zx⟩ := Kd.at_string (Kd.R_reads' (Kd.R_below ho.out hBi.out)).2.2 x hx0 hx1
                  cases eA
                  obtain ⟨xa, hxa⟩ : ∃ y, rdOf ByteArray.empty l x = y := ⟨_, rfl⟩
                  have e1 : l[j] = xa := by rw [← hxa, hj.out.1]; simp [rdOf, List.getD_eq_getElem?_getD, hjl]
                  have hxs : xa.size ≤ 1048576 := by rw [← e1]; exact hls.out _ (List.getElem_mem _)
                  have ha2 : l.all uline = (uline xa && (l.drop (j + 1)).all uline) := by rw [ha.out, List.drop_eq_getElem_cons hjl, List.all_cons, e1]
                  rw [hxa] at zx
                  clear hxa e1 ha
                  have hTi := tabs_below hT (below_step hb hBi.out)
                  cases hli : uline xa with
                  | false =>
                    have hE2 : l.all uline = false := by rw [ha2, hli]; rfl
                    replace hE2 := Lib.hid hE2
                    replace hli := Lib.hid hli
                    clear ha2
                    go_wp2_with (first
                      | (go_at_call 62; go_must (refine (page_line.calls xa _ _ hTi (by unfold page_line.f; rw [if_pos (by omega), hli.out])).mono ?_; rintro e w8 ⟨rfl, hb8⟩)))
                    go_ret
                    exact ⟨by rw [hV.out, hE2.out]; rfl, below_step (below_step hb hBi.out) hb8⟩
                  | true =>
                    have hE2 : l.all uline = (l.drop (j + 1)).all uline := by rw [ha2, hli]; rfl
                    replace hE2 := Lib.hid hE2
                    replace hli := Lib.hid hli
                    replace hjl := Lib.hid hjl
                    clear ha2
                    go_wp2_with (first
                      | (go_at_call 62; go_must (refine (page_line.calls xa _ _ hTi (by unfold page_line.f; rw [if_pos (by omega), hli.out])).mono ?_; rintro e w8 ⟨rfl, hb8⟩)))
                    refine ⟨⟨j + 1, x + 1, rfl, Lib.hid ⟨by have := hj.out; omega, hjl.out⟩, hE2, Lib.hid (below_step hBi.out hb8)⟩, ?_⟩
                    simp only [intOf]; have := hj.out; have := hjl.out; omega
                · have hge2 : ¬ x < (l.length : Int) := by have := hj.out; omega
                  have hE2 : l.all uline = true := by rw [ha.out, List.drop_of_length_le (by omega)]; rfl
                  replace hE2 := Lib.hid hE2
                  clear ha
                  go_wp2
                  go_ret
                  exact ⟨by rw [hV.out, hE2.out]; rfl, below_step hb hBi.out⟩
            · refine Kd.R_lit_step Kd.string _ 9 ?hg (N := 59) ?hd (xs := ([title] : List ByteArray)) (inner := [.string title]) (ok := fun _ => True) (okp := fun _ => True) ?hr ?hp (fun _ hk => hk) trivial (Below.refl _ _) (Nat.le_refl _) (by simp) ?_; (case hd => rfl); (case hg => rfl); (case hr => first | (go_simp; done) | (go_simp; rfl)); (case hp => exact (Reps.one (show Kd.M Kd.string _ _ _ title [.string title] from rfl) (Reps.none _ _)))
              intro v5 _ ho hb _ _
              have RY := Kd.R_lower ho (below_size hB)
              have bP := blk_below bP hb
              have hB := below_step hB hb
              clear ho hb
              obtain ⟨B5, b5, rfl⟩ := Kd.R_slice RY
              refine hK.out _ _ ⟨(blk_cell bP 0).trans rfl, (blk_cell bP 7).trans rfl⟩ (fun hHeld => ?_)
              clear hK K
              refine norm_ (a' := ?_) ?_ ?_
              rotate_left
              · show Act.put _ (some 59) _ = _
                simp only [Act.put, List.setIfInBounds_toArray, List.set_cons_zero, List.set_cons_succ, i64_w, i32_w]
                rfl
              refine one_ (i := 2) (N := some 56) #[true, true, true, true, true, true, false, false, true] rfl rfl (by kernel_rfl) (by decide) (fun K hK => ?_)
              refine goes_ Tryz.func38 (by kernel_rfl) rfl #[.slice A6 clues.length c6] (by rfl) rfl rfl (by first | (go_simp; done) | (go_simp; rfl)) ?_
              refine (slices_Clone_string_string.calls _ _ clues clues _ (hP.below hB).r6 hP.k6 (by unfold slices_Clone_string_string.f; rw [if_pos (by omega)])).mono ?_
              rintro e _ ⟨v2, rfl, ho, hb⟩
              have RX := Kd.R_lower ho (below_size hB)
              have RY := Kd.R_below RY hb
              have bP := blk_below bP hb
              have hB := below_step hB hb
              clear ho hb
              obtain ⟨B2, b2, rfl⟩ := Kd.R_slice RX
              refine ⟨_, rfl, ?_⟩
              refine hK.out _ _ ⟨(blk_cell bP 0).trans rfl, (blk_cell bP 7).trans rfl⟩ (fun hHeld => ?_)
              clear hK K
              refine norm_ (a' := ?_) ?_ ?_
              rotate_left
              · show Act.put _ (some 56) _ = _
                simp only [Act.put, List.setIfInBounds_toArray, List.set_cons_zero, List.set_cons_succ, i64_w, i32_w]
                rfl
              refine one_ (i := 6) (N := some 60) #[true, true, true, true, true, true, true, false, true] rfl rfl (by kernel_rfl) (by decide) (fun K hK => ?_)
              refine Kd.R_append_rows_step Kd.string (w0 := w) w.heap.size (by rfl) (.tmp 56) (.tmp 59) 40 9 (.string ⟨#[]⟩) 16 rfl Tryz.underlying40 str_info rfl (by decide) (by decide) (.slice B2 clues.length b2) clues [title] _ _ _ (fun _ => True) (fun _ => False) rfl rfl ?aO ?aR (fun _ _ h => h) (fun _ h => h.elim) ?aF ?aB ?aS ?aL ?_
              (case aR => exact (Kd.R_reads' RY).2.2)
              (case aB => exact hB)
              (case aF => exact (fun _ _ => trivial))
              (case aO => exact RX)
              (case aS => exact below_size hB)
              (case aL => have := hz0.m; simp only [List.length_singleton]; omega)
              intro v6 w9 ho hb hg _
              rw [hl.out] at ho
              have bP := blk_grown bP hg (Kd.R_ne RX bP (by decide))
              clear RX RY hg
              obtain ⟨B6, b6, rfl⟩ := Kd.R_slice ho
              refine hK.out _ _ ⟨(blk_cell bP 0).trans rfl, (blk_cell bP 7).trans rfl⟩ (fun hHeld => ?_)
              clear hK K
              refine norm_ (a' := ?_) ?_ ?_
              rotate_left
              · show Act.put _ (some 60) _ = _
                simp only [Act.put, List.setIfInBounds_toArray, List.set_cons_zero, List.set_cons_succ, i64_w, i32_w]
                rfl
              refine pure_ (i := 7) (N := some 61) (v := ?_) (a' := ?_) #[true, true, true, true, true, true, true, true, true] rfl rfl (by kernel_rfl) (fun _ _ _ h => h) (Or.inl ⟨by rfl, ?_⟩) ?_ ?_
              rotate_left
              · intro w'; go_simp; try with_reducible rfl
              rotate_left
              · simp only [Act.put, List.setIfInBounds_toArray, List.set_cons_zero, List.set_cons_succ, i64_w, i32_w]; rfl
              refine done_ (by kernel_rfl) ?_
              clear p6 hB6 bP6 bP hB
              have hls : ∀ s ∈ l, s.size ≤ 1048576 := by
                intro s hs
                rw [← hl.out] at hs
                rcases List.mem_append.1 hs with h | h
                · exact hz0.c s h
                · rw [List.mem_singleton.1 h]; exact hz0.t
              have hll : l.length ≤ 1048577 := by rw [← hl.out, List.length_append, List.length_singleton]; have := hz0.m; omega
              replace hls := Lib.hid hls
              replace ho := Lib.hid ho
              go_wp2
              rw [t5, show ([title] : List ByteArray).length = 1 from rfl]
              go_loopw [62] (fun v5 wi => ∃ (j : Nat) (x : Int), v5 = .int .i64 x ∧ Hid (x = j ∧ j ≤ l.length) ∧ Hid (l.all uline = (l.drop j).all uline) ∧ Hid (Below w9.heap.size w9 wi)) (fun v5 _ => l.length - (intOf v5).toNat)
              case atStart => exact ⟨0, 0, rfl, Lib.hid ⟨rfl, Nat.zero_le _⟩, Lib.hid (by rw [List.drop_zero]), Lib.hid (Below.refl _ _)⟩
              case round =>
                obtain ⟨j, x, rfl, hj, ha, hBi⟩ := hrel
                by_cases hjl : j < l.length
                · have hx0 : 0 ≤ x := by have := hj.out; omega
                  have hx1 : x < (l.length : Int) := by have := hj.out; omega
                  have hx3 : x < 1048577 := by omega
                  obtain ⟨ad, eA, zx⟩ := Kd.at_string (Kd.R_reads' (Kd.R_below ho.out hBi.out)).2.2 x hx0 hx1
                  cases eA
                  obtain ⟨xa, hxa⟩ : ∃ y, rdOf ByteArray.empty l x = y := ⟨_, rfl⟩
                  have e1 : l[j] = xa := by rw [← hxa, hj.out.1]; simp [rdOf, List.getD_eq_getElem?_getD, hjl]
                  have hxs : xa.size ≤ 1048576 := by rw [← e1]; exact hls.out _ (List.getElem_mem _)
                  have ha2 : l.all uline = (uline xa && (l.drop (j + 1)).all uline) := by rw [ha.out, List.drop_eq_getElem_cons hjl, List.all_cons, e1]
                  rw [hxa] at zx
                  clear hxa e1 ha
                  have hTi := tabs_below hT (below_step hb hBi.out)
                  cases hli : uline xa with
                  | false =>
                    have hE2 : l.all uline = false := by rw [ha2, hli]; rfl
                    replace hE2 := Lib.hid hE2
                    replace hli := Lib.hid hli
                    clear ha2
                    go_wp2_with (first
                      | (go_at_call 62; go_must (refine (page_line.calls xa _ _ hTi (by unfold page_line.f; rw [if_pos (by omega), hli.out])).mono ?_; rintro e w8 ⟨rfl, hb8⟩)))
                    go_ret
                    exact ⟨by rw [hV.out, hE2.out]; rfl, below_step (below_step hb hBi.out) hb8⟩
                  | true =>
                    have hE2 : l.all uline = (l.drop (j + 1)).all uline := by rw [ha2, hli]; rfl
                    replace hE2 := Lib.hid hE2
                    replace hli := Lib.hid hli
                    replace hjl := Lib.hid hjl
                    clear ha2
                    go_wp2_with (first
                      | (go_at_call 62; go_must (refine (page_line.calls xa _ _ hTi (by unfold page_line.f; rw [if_pos (by omega), hli.out])).mono ?_; rintro e w8 ⟨rfl, hb8⟩)))
                    refine ⟨⟨j + 1, x + 1, rfl, Lib.hid ⟨by have := hj.out; omega, hjl.out⟩, hE2, Lib.hid (below_step hBi.out hb8)⟩, ?_⟩
                    simp only [intOf]; have := hj.out; have := hjl.out; omega
                · have hge2 : ¬ x < (l.length : Int) := by have := hj.out; omega
                  have hE2 : l.all uline = true := by rw [ha.out, List.drop_of_length_le (by omega)]; rfl
                  replace hE2 := Lib.hid hE2
                  clear ha
                  go_wp2
                  go_ret
                  exact ⟨by rw [hV.out, hE2.out]; rfl, below_step hb hBi.out⟩
          · have t5 : ((clues.length : Int) != (L.length : Int)) = true := bne_iff_ne.2 (by omega)
            have t5b : (clues.length != L.length) = true := by simpa using hcl
            have hV : V = 160 := by
              rw [← hV0.out, hE.out, hL.out, if_neg hcl]
              rfl
            replace hV := Lib.hid hV
            replace hcl := Lib.hid hcl
            go_wp2
            go_ret
            exact ⟨by first | (rw [hV.out]; done) | (rw [hV.out]; rfl) | rfl, hB6.out⟩
    · have t1 : ((cells.length : Int) != (bl.length : Int)) = true := bne_iff_ne.2 (by omega)
      have t1b : (cells.length != bl.length) = true := by simpa using hs
      have hv : pcheck title H W bl ri be cells clues = 51 := by unfold pcheck; rw [if_pos hg, if_neg hs]
      rw [hv]
      clear hv
      replace hg := Lib.hid hg
      go_enter Tryz.func49, Tryz.ntmps49
      go_wp2_with (first
        | (go_at_call 59; go_must (have hPx := hP.below hx.out.2; refine (grid_Check.calls _ _ _ _ _ _ _ _ _ _ _ _ _ _ hPx.r2 hPx.k2 hPx.r3 hPx.k3 hPx.r4 hPx.k4 hgk.out).mono ?_; clear hPx; rintro e w3 ⟨rfl, hb3⟩; have hB3 := Lib.hid (below_step hx.out.2 hb3); have bP := Lib.hid (blk_below hx.out.1 hb3); have p3 := cells8 bP.out; clear hb3)))
      go_ret
      exact ⟨rfl, hB3.out⟩
  · have tg : (gcheck H W bl ri be != 0) = true := bne_iff_ne.2 hg
    have hv : pcheck title H W bl ri be cells clues = gcheck H W bl ri be := by unfold pcheck; rw [if_neg hg]
    rw [hv]
    have hgk := grid_Check_eq H W bl ri be (bl.length + 3) (Nat.le_refl _)
    clear hv hz
    obtain ⟨ge, hge⟩ : ∃ x, gcheck H W bl ri be = x := ⟨_, rfl⟩
    rw [hge] at tg hgk ⊢
    clear hg
    replace hgk := Lib.hid hgk
    replace hge := Lib.hid hge
    go_enter Tryz.func49, Tryz.ntmps49
    go_wp2_with (first
      | (go_at_call 59; go_must (have hPx := hP.below hx.out.2; refine (grid_Check.calls _ _ _ _ _ _ _ _ _ _ _ _ _ _ hPx.r2 hPx.k2 hPx.r3 hPx.k3 hPx.r4 hPx.k4 hgk.out).mono ?_; clear hPx; rintro e w3 ⟨rfl, hb3⟩; have hB3 := Lib.hid (below_step hx.out.2 hb3); have bP := Lib.hid (blk_below hx.out.1 hb3); have p3 := cells8 bP.out; clear hb3)))
    go_ret
    exact ⟨rfl, hB3.out⟩
end Go.Proofs.YtjopbfidjapmbaaGreatDoor.Q
end
