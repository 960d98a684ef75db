/- PART 12 OF A PROOF: Lean functions, and that the program computes them; written by hand and by a program. Not trusted: Lean checks it. -/
import Derived.Test.YtiipailmldbpbaaDoorAd3
import Derived.Test.YtiipailmldbpbaaDoorAd8
import Derived.Test.YtiipailmldbpbaaDoorAd11
set_option linter.unusedVariables false
set_option linter.unusedSimpArgs false
section
namespace Go.Proofs.YtiipailmldbpbaaDoor.Q
open Go.RowKit Go.Proofs.YtiipailmldbpbaaDoorW.PrintWords Go.Proofs.YtiipailmldbpbaaDoorW.PrintLast Go.Proofs.YtiipailmldbpbaaDoorW.PrintMore
attribute [local go_sem] max2_int min2_int max_two min_two max_three min_three max_four min_four
set_option linter.unusedVariables false
set_option linter.unusedSimpArgs false
open Go.Proofs.YtiipailmldbpbaaDoorS
theorem at_ops0 {α : Type} (a : α) (l : List α) : (List.toArray (a :: l))[0]? = some a := by simp
theorem at_ops1 {α : Type} (a b : α) (l : List α) : (List.toArray (a :: b :: l))[1]? = some b := by simp
theorem at_ops2 {α : Type} (a b c : α) (l : List α) : (List.toArray (a :: b :: c :: l))[2]? = some c := by simp
theorem at_ops3 {α : Type} (a b c d : α) (l : List α) : (List.toArray (a :: b :: c :: d :: l))[3]? = some d := by simp
theorem at_ops4 {α : Type} (a b c d e : α) (l : List α) : (List.toArray (a :: b :: c :: d :: e :: l))[4]? = some e := by simp
theorem at_ops5 {α : Type} (a b c d e f : α) (l : List α) : (List.toArray (a :: b :: c :: d :: e :: f :: l))[5]? = some f := by simp
theorem at_ops6 {α : Type} (a b c d e f g : α) (l : List α) : (List.toArray (a :: b :: c :: d :: e :: f :: g :: l))[6]? = some g := by simp
theorem at_ops7 {α : Type} (a b c d e f g h : α) (l : List α) : (List.toArray (a :: b :: c :: d :: e :: f :: g :: h :: l))[7]? = some h := by simp
theorem at_ops8 {α : Type} (a b c d e f g h i : α) (l : List α) : (List.toArray (a :: b :: c :: d :: e :: f :: g :: h :: i :: l))[8]? = some i := by simp
def SeatOk (n m : Nat) (x : S91) : Prop := -1 ≤ x.f0 ∧ x.f0 < n ∧ 0 ≤ x.f1 ∧ x.f1 ≤ m
theorem seatCells_ok {n m : Nat} {s : Int} (hs : 0 ≤ s ∧ s < n) : ∀ (cs : List Int) (k : Nat) (l : List S91), k + cs.length ≤ m → (∀ x ∈ l, SeatOk n m x) → ∀ x ∈ seatCells s cs k l, SeatOk n m x
  | [], _, _, _, h => h
  | i :: is, k, l, hk, h => by
    simp only [seatCells]
    simp only [List.length_cons] at hk
    refine seatCells_ok hs is (k + 1) _ (by omega) (fun x hx => ?_)
    rcases List.mem_or_eq_of_mem_set hx with hx | rfl
    · exact h x hx
    · exact ⟨by simp only; omega, hs.2, Int.natCast_nonneg _, by simp only; omega⟩
theorem seatS_ok {n m : Nat} : ∀ (L : List S93) (s : Nat) (p : List S91 × List S91), s + L.length ≤ n → (∀ x ∈ L, x.f2.length ≤ m) → (∀ x ∈ p.1, SeatOk n m x) → (∀ x ∈ p.2, SeatOk n m x) →
    (∀ x ∈ (seatS L s p).1, SeatOk n m x) ∧ (∀ x ∈ (seatS L s p).2, SeatOk n m x) ∧ (seatS L s p).1.length = p.1.length ∧ (seatS L s p).2.length = p.2.length
  | [], _, _, _, _, h0, h1 => ⟨h0, h1, rfl, rfl⟩
  | y :: ys, s, p, hs, hl, h0, h1 => by
    simp only [seatS]
    simp only [List.length_cons] at hs
    have hy := hl y List.mem_cons_self
    have hl2 : ∀ x ∈ ys, x.f2.length ≤ m := fun x hx => hl x (List.mem_cons_of_mem _ hx)
    cases y.f1 with
    | true =>
      have := seatS_ok ys (s + 1) (p.1, seatCells (s : Int) y.f2 0 p.2) (by omega) hl2 h0 (seatCells_ok ⟨by omega, by omega⟩ _ _ _ (by omega) h1)
      exact ⟨this.1, this.2.1, this.2.2.1, by have h := this.2.2.2; rw [seatCells_length] at h; exact h⟩
    | false =>
      have := seatS_ok ys (s + 1) (seatCells (s : Int) y.f2 0 p.1, p.2) (by omega) hl2 (seatCells_ok ⟨by omega, by omega⟩ _ _ _ (by omega) h0) h1
      exact ⟨this.1, this.2.1, by have h := this.2.2.1; rw [seatCells_length] at h; exact h, this.2.2.2⟩
theorem seatsOf_facts {H W : Int} {bl ri be : List Bool} (hc : gcheck H W bl ri be = 0) :
    (∀ x ∈ (seatsOf H W bl ri be).1, SeatOk (slotsOf H W bl ri be).length bl.length x) ∧ (∀ x ∈ (seatsOf H W bl ri be).2, SeatOk (slotsOf H W bl ri be).length bl.length x) ∧ (seatsOf H W bl ri be).1.length = bl.length ∧ (seatsOf H W bl ri be).2.length = bl.length := by
  unfold seatsOf
  rw [if_pos hc]
  have h := slotsOf_facts hc
  have h1 : ∀ x ∈ List.replicate bl.length (⟨-1, 0⟩ : S91), SeatOk (slotsOf H W bl ri be).length bl.length x := fun x hx => by
    rw [List.eq_of_mem_replicate hx]
    exact ⟨Int.le_refl _, by simp only; omega, Int.le_refl _, by simp only; omega⟩
  have := seatS_ok (slotsOf H W bl ri be) 0 (List.replicate bl.length ⟨-1, 0⟩, List.replicate bl.length ⟨-1, 0⟩) (by omega) (fun x hx => (h.2 x hx).1) h1 h1
  simpa using this
theorem rd_seat {l : List S91} {i : Int} (h0 : 0 ≤ i) (h1 : i < l.length) : rd_T91 l i ∈ l := by
  have e : rd_T91 l i = l[i.toNat] := by simp [rd_T91, List.getD_eq_getElem?_getD, show i.toNat < l.length by omega]
  rw [e]
  exact List.getElem_mem _
def seatRow (H W : Int) (bl ri be : List Bool) (dn : Bool) : List S91 := if dn then (seatsOf H W bl ri be).2 else (seatsOf H W bl ri be).1
def stepSeat (H W : Int) (bl ri be : List Bool) (seat : S91) (at_ d : Int) : Int :=
  if seat.f0 < 0 then at_ else if 0 ≤ seat.f1 + d ∧ seat.f1 + d < (rd_T93 (slotsOf H W bl ri be) seat.f0).f2.length then rd (rd_T93 (slotsOf H W bl ri be) seat.f0).f2 (seat.f1 + d) else at_
def stepOf (H W : Int) (bl ri be : List Bool) (at_ : Int) (dn : Bool) (d : Int) : Int := stepSeat H W bl ri be (rd_T91 (seatRow H W bl ri be dn) at_) at_ d
theorem slot_cells {W : World} {base : Nat} {ok : Nat → Prop} {v : Value} {L : List S93} (h : Kd.S k93 93 W base ok v L) (j : Int) (h0 : 0 ≤ j) (h1 : j < L.length) :
    ∃ ad c B k, v = .slice (some ad) L.length c ∧ W.cell? (ad.add (j.toNat * 3)) = some (.int .i64 (rd_T93 L j).f0) ∧ W.cell? ⟨(ad.add (j.toNat * 3)).block, (ad.add (j.toNat * 3)).off + 1, none⟩ = some (.bool (rd_T93 L j).f1) ∧ W.cell? ⟨(ad.add (j.toNat * 3)).block, (ad.add (j.toNat * 3)).off + 2, none⟩ = some (.slice B (rd_T93 L j).f2.length k) ∧ Kd.R (Kd.int .i64) 3 W base (fun _ => True) (.slice B (rd_T93 L j).f2.length k) (rd_T93 L j).f2 := by
  obtain ⟨AL, cL, rfl⟩ := Kd.S_slice h
  cases AL with
  | none => have := (Kd.S_reads' h).2.2.2.2 (by omega); obtain ⟨ad, e, _⟩ := this; cases e
  | some ad =>
    obtain ⟨c, hcl, h2, hcc⟩ := Kd.S_get h z93 j h0 h1
    have hM : k93.M W base (fun _ => True) (rd_T93 L j) c := k93.M_mono (fun _ _ => trivial) h2
    obtain ⟨v2, rfl, hRc⟩ := k93_openM hM
    obtain ⟨B, k, rfl⟩ := Kd.R_slice hRc
    exact ⟨ad, cL, B, k, rfl, hcc 0 _ rfl, by rw [← add_field _ _ 1 (by omega)]; exact hcc 1 _ rfl, by rw [← add_field _ _ 2 (by omega)]; exact hcc 2 _ rfl, hRc⟩
set_option maxHeartbeats 8000000 in
set_option maxRecDepth 1000000 in
theorem sheet_step.calls (title : ByteArray) (H W : Int) (A2 : Option Addr) (c2 : Nat) (bl : List Bool) (A3 : Option Addr) (c3 : Nat) (ri : List Bool) (A4 : Option Addr) (c4 : Nat) (be : List Bool) (A5 : Option Addr) (n5 c5 : Nat) (A6 : Option Addr) (n6 c6 : Nat) (A7 : Option Addr) (n7 c7 : Nat) (A8 : Option Addr) (n8 c8 : Nat) (at_ : Int) (dn : Bool) (d : Int) (w : World)
    (hg : GridIs H W A2 c2 bl A3 c3 ri A4 c4 be w) (ha : 0 ≤ at_ ∧ at_ < bl.length) (hd : -1 ≤ d ∧ d ≤ 1) :
    Calls Tryd.prog 26 #[.agg #[.string title, .int .i64 H, .int .i64 W, .slice A2 bl.length c2, .slice A3 ri.length c3, .slice A4 be.length c4, .slice A5 n5 c5, .slice A6 n6 c6], .agg #[.slice A7 n7 c7, .slice A8 n8 c8, .int .i64 at_, .bool dn], .int .i64 d] w fun e w' => e = .returned (.int .i64 (stepOf H W bl ri be at_ dn d)) ∧ Below w.heap.size w w' := by
  have hbl : bl.length ≤ 256 := by have := (mul_small (gcheck_ok hg.ok).1 (gcheck_ok hg.ok).2.1).2; have := (gcheck_ok hg.ok).2.2.1; omega
  have hsf := seatsOf_facts hg.ok
  have hrow : (∀ x ∈ seatRow H W bl ri be dn, SeatOk (slotsOf H W bl ri be).length bl.length x) ∧ (seatRow H W bl ri be dn).length = bl.length := by
    unfold seatRow
    cases dn
    · exact ⟨hsf.1, hsf.2.2.1⟩
    · exact ⟨hsf.2.1, hsf.2.2.2⟩
  have hok := hrow.1 _ (rd_seat ha.1 (by rw [hrow.2]; exact ha.2))
  have hS : slots_Seats.f H W bl ri be = some ((seatsOf H W bl ri be).1, (seatsOf H W bl ri be).2) := rfl
  replace hS := Lib.hid hS
  replace hsf := Lib.hid hsf
  replace hrow := Lib.hid hrow
  replace hok := Lib.hid hok
  replace hbl := Lib.hid hbl
  obtain ⟨ha0, ha1⟩ := ha
  have hu27 := Tryd.underlying27
  have hu24 := Tryd.underlying24
  have hx := box2 w (.cells #[.string title, .int .i64 H, .int .i64 W, .slice A2 bl.length c2, .slice A3 ri.length c3, .slice A4 be.length c4, .slice A5 n5 c5, .slice A6 n6 c6] 27) (.cells #[.slice A7 n7 c7, .slice A8 n8 c8, .int .i64 at_, .bool dn] 30)
  replace hx := Lib.hid hx
  cases dn with
  | false =>
    obtain ⟨seat, hseat⟩ : ∃ x, rd_T91 (seatsOf H W bl ri be).1 at_ = x := ⟨_, rfl⟩
    have hres : stepOf H W bl ri be at_ false d = stepSeat H W bl ri be seat at_ d := by rw [← hseat]; rfl
    have hok : SeatOk (slotsOf H W bl ri be).length bl.length seat := by rw [← hseat]; exact hok.out
    obtain ⟨hk1, hk2, hk3, hk4⟩ := hok
    rw [hres]
    clear hres hok
    replace hseat := Lib.hid hseat
    by_cases hneg : seat.f0 < 0
    · have tn : decide (seat.f0 < 0) = true := decide_eq_true hneg
      have hfin : stepSeat H W bl ri be seat at_ d = at_ := by unfold stepSeat; rw [if_pos hneg]
      rw [hfin]
      clear hfin
      go_enter Tryd.func26, Tryd.ntmps26
      go_wp2_with (go_at_call 45; go_loud (refine (slots_Seats.calls _ _ _ _ _ _ _ _ _ _ _ _ _ _ (Kd.C_below hg.h2 hx.out.2.2) hg.c2 (Kd.C_below hg.h3 hx.out.2.2) hg.c3 (Kd.C_below hg.h4 hx.out.2.2) hg.c4 hS.out).mono ?_; rintro e w3 ⟨v0, v1, rfl, hr0, hr1, hb3⟩; have hP := blk_below hx.out.1 hb3; have hQ := blk_below hx.out.2.1 hb3; have hB := below_step hx.out.2.2 hb3; obtain ⟨p0, p1, p2, p3, p4, p5, p6, p7⟩ := cells8 hP; obtain ⟨q0, q1, q2, q3⟩ := cells4 hQ; have hz := blk_lt hQ; obtain ⟨B0, k0, rfl⟩ := Kd.R_slice hr0; have hC0 := (Kd.R_reads' hr0).2.2; obtain ⟨ad, eA, y0, y1⟩ := at_T91 hC0 at_ ha0 (by have := hsf.out.2.2.1; omega); cases eA; rw [hseat.out] at y0 y1; have hsf1 := hsf.out.2.2.1; rw [hsf1] at *; replace hP := Lib.hid hP; replace hQ := Lib.hid hQ; clear hr0 hr1 hb3 hC0))
      go_ret
      exact ⟨rfl, below_alloc hB _⟩
    · have tn : decide (seat.f0 < 0) = false := decide_eq_false hneg
      have hf0 : 0 ≤ seat.f0 := by omega
      obtain ⟨cs, hcs⟩ : ∃ x, (rd_T93 (slotsOf H W bl ri be) seat.f0).f2 = x := ⟨_, rfl⟩
      have hfin : stepSeat H W bl ri be seat at_ d = if 0 ≤ seat.f1 + d ∧ seat.f1 + d < cs.length then rd cs (seat.f1 + d) else at_ := by unfold stepSeat; rw [if_neg hneg, hcs]
      rw [hfin]
      clear hfin
      obtain ⟨L, hL⟩ : ∃ L, slotsOf H W bl ri be = L := ⟨_, rfl⟩
      have hLs : slots_List.f H W bl ri be = some L := by unfold slots_List.f; rw [hL]
      rw [hL] at hcs hk2
      replace hcs := Lib.hid hcs
      replace hLs := Lib.hid hLs
      clear hL
      go_enter Tryd.func26, Tryd.ntmps26
      go_wp2_with (go_at_call 45; go_loud (refine (slots_Seats.calls _ _ _ _ _ _ _ _ _ _ _ _ _ _ (Kd.C_below hg.h2 hx.out.2.2) hg.c2 (Kd.C_below hg.h3 hx.out.2.2) hg.c3 (Kd.C_below hg.h4 hx.out.2.2) hg.c4 hS.out).mono ?_; rintro e w3 ⟨v0, v1, rfl, hr0, hr1, hb3⟩; have hP := blk_below hx.out.1 hb3; have hQ := blk_below hx.out.2.1 hb3; have hB := below_step hx.out.2.2 hb3; obtain ⟨p0, p1, p2, p3, p4, p5, p6, p7⟩ := cells8 hP; obtain ⟨q0, q1, q2, q3⟩ := cells4 hQ; have hz := blk_lt hQ; obtain ⟨B0, k0, rfl⟩ := Kd.R_slice hr0; have hC0 := (Kd.R_reads' hr0).2.2; obtain ⟨ad, eA, y0, y1⟩ := at_T91 hC0 at_ ha0 (by have := hsf.out.2.2.1; omega); cases eA; rw [hseat.out] at y0 y1; have hsf1 := hsf.out.2.2.1; rw [hsf1] at *; replace hP := Lib.hid hP; replace hQ := Lib.hid hQ; clear hr0 hr1 hb3 hC0))
      have hP4 := blk_alloc hP.out (.cells #[.int .i64 seat.f0, .int .i64 seat.f1] 91)
      have hQ4 := blk_alloc hQ.out (.cells #[.int .i64 seat.f0, .int .i64 seat.f1] 91)
      have hR4 := blk_new w3 (.cells #[.int .i64 seat.f0, .int .i64 seat.f1] 91)
      have hB4 := below_alloc hB (.cells #[.int .i64 seat.f0, .int .i64 seat.f1] 91)
      generalize w3.alloc (.cells #[.int .i64 seat.f0, .int .i64 seat.f1] 91) = w4 at hP4 hQ4 hR4 hB4 ⊢
      clear y0 y1 p0 p1 p2 p3 p4 p5 p6 p7 q0 q1 q2 q3 hB hP hQ hx
      replace hP4 := Lib.hid hP4
      replace hQ4 := Lib.hid hQ4
      replace hR4 := Lib.hid hR4
      replace hB4 := Lib.hid hB4
      have hg4 := hg.below hB4.out
      obtain ⟨r0, r1⟩ := cells2 hR4.out
      obtain ⟨p0, p1, p2, p3, p4, p5, p6, p7⟩ := cells8 hP4.out
      refine wp_region_noPanic ?_
      refine wp_region_held_drew (S := (fun w' => w'.cell? ⟨w.heap.size, 1, none⟩ = some (.int .i64 H) ∧ w'.cell? ⟨w.heap.size, 2, none⟩ = some (.int .i64 W) ∧ w'.cell? ⟨w.heap.size, 3, none⟩ = some (.slice A2 bl.length c2) ∧ w'.cell? ⟨w.heap.size, 4, none⟩ = some (.slice A3 ri.length c3) ∧ w'.cell? ⟨w.heap.size, 5, none⟩ = some (.slice A4 be.length c4) ∧ w'.cell? ⟨w3.heap.size, 0, none⟩ = some (.int .i64 seat.f0))) (by kernel_rfl) ?s1 (fun hHeld => ?_)
      case s1 => ((try dsimp only); go_keep)
      refine wpAnyH_take (i := 0) (oi := ?t2oi) (v := ?t2v) ?t2ho ?t2k1 ?t2k2 ?t2k3 (fun _ _ _ h => h) (Or.inl ⟨?t2kw, ?t2hy⟩) hHeld ?t2rest
      case t2ho => exact at_ops0 _ _
      case t2k1 => kernel_rfl
      case t2k2 => kernel_rfl
      case t2k3 => kernel_rfl
      case t2kw => rfl
      case t2hy => (intro w9 hS9; (try dsimp only at hS9); go_simp; try with_reducible rfl)
      try simp only [Act.put, List.setIfInBounds_toArray, List.set_cons_zero, List.set_cons_succ]
      refine wpAnyH_take (i := 1) (oi := ?t3oi) (v := ?t3v) ?t3ho ?t3k1 ?t3k2 ?t3k3 (fun _ _ _ h => h) (Or.inl ⟨?t3kw, ?t3hy⟩) hHeld ?t3rest
      case t3ho => exact at_ops1 _ _ _
      case t3k1 => kernel_rfl
      case t3k2 => kernel_rfl
      case t3k3 => kernel_rfl
      case t3kw => rfl
      case t3hy => (intro w9 hS9; (try dsimp only at hS9); go_simp; try with_reducible rfl)
      try simp only [Act.put, List.setIfInBounds_toArray, List.set_cons_zero, List.set_cons_succ]
      refine wpAnyH_take (i := 3) (oi := ?t4oi) (v := ?t4v) ?t4ho ?t4k1 ?t4k2 ?t4k3 (fun _ _ _ h => h) (Or.inl ⟨?t4kw, ?t4hy⟩) hHeld ?t4rest
      case t4ho => exact at_ops3 _ _ _ _ _
      case t4k1 => kernel_rfl
      case t4k2 => kernel_rfl
      case t4k3 => kernel_rfl
      case t4kw => rfl
      case t4hy => (intro w9 hS9; (try dsimp only at hS9); go_simp; try with_reducible rfl)
      try simp only [Act.put, List.setIfInBounds_toArray, List.set_cons_zero, List.set_cons_succ]
      refine wpAnyH_take (i := 4) (oi := ?t5oi) (v := ?t5v) ?t5ho ?t5k1 ?t5k2 ?t5k3 (fun _ _ _ h => h) (Or.inl ⟨?t5kw, ?t5hy⟩) hHeld ?t5rest
      case t5ho => exact at_ops4 _ _ _ _ _ _
      case t5k1 => kernel_rfl
      case t5k2 => kernel_rfl
      case t5k3 => kernel_rfl
      case t5kw => rfl
      case t5hy => (intro w9 hS9; (try dsimp only at hS9); go_simp; try with_reducible rfl)
      try simp only [Act.put, List.setIfInBounds_toArray, List.set_cons_zero, List.set_cons_succ]
      refine wpAnyH_ready (rs := [2]) (by kernel_rfl) (by simp) ?_
      refine AllReadyH.cons (at_ops2 _ _ _ _) (fun K hK => ?_) AllReadyH.nil
      go_simp
      (go_at_call 34; refine (slots_List.calls _ _ _ _ _ _ _ _ _ _ _ _ _ ?s1 hg.c2 ?s2 hg.c3 ?s3 hg.c4 hLs.out).mono ?_; (case s1 => exact Kd.C_drewN hg4.h2 1); (case s2 => exact Kd.C_drewN hg4.h3 1); (case s3 => exact Kd.C_drewN hg4.h4 1); rintro e w5 ⟨vL, rfl, hLr, hb5⟩; obtain ⟨ad2, k2, B2, k3, rfl, z0, z1, z2, hRc⟩ := slot_cells hLr seat.f0 hf0 hk2; rw [hcs.out] at z2 hRc)
      refine hK.out _ _ ?s6 (fun hHeld => ?_)
      case s6 => exact ⟨pw_cell_below hb5 p1, pw_cell_below hb5 p2, pw_cell_below hb5 p3, pw_cell_below hb5 p4, pw_cell_below hb5 p5, pw_cell_below hb5 r0⟩
      clear hK K
      try simp only [Act.put, List.setIfInBounds_toArray, List.set_cons_zero, List.set_cons_succ]
      refine wpAnyH_take (i := 5) (oi := ?t7oi) (v := ?t7v) ?t7ho ?t7k1 ?t7k2 ?t7k3 (fun _ _ _ h => h) (Or.inl ⟨?t7kw, ?t7hy⟩) hHeld ?t7rest
      case t7ho => exact at_ops5 _ _ _ _ _ _ _
      case t7k1 => kernel_rfl
      case t7k2 => kernel_rfl
      case t7k3 => kernel_rfl
      case t7kw => rfl
      case t7hy => (intro w9 hS9; (try dsimp only at hS9); go_simp; try with_reducible rfl)
      try simp only [Act.put, List.setIfInBounds_toArray, List.set_cons_zero, List.set_cons_succ]
      refine wpAnyH_take (i := 6) (oi := ?t8oi) (v := ?t8v) ?t8ho ?t8k1 ?t8k2 ?t8k3 (fun _ _ _ h => h) (Or.inl ⟨?t8kw, ?t8hy⟩) hHeld ?t8rest
      case t8ho => exact at_ops6 _ _ _ _ _ _ _ _
      case t8k1 => kernel_rfl
      case t8k2 => kernel_rfl
      case t8k3 => kernel_rfl
      case t8kw => rfl
      case t8hy => (intro w9 hS9; (try dsimp only at hS9); go_simp; try with_reducible rfl)
      try simp only [Act.put, List.setIfInBounds_toArray, List.set_cons_zero, List.set_cons_succ]
      refine wpAnyH_ready (rs := [7]) (by kernel_rfl) (by simp) ?_
      refine AllReadyH.cons (at_ops7 _ _ _ _ _ _ _ _ _) (fun K hK => ?_) AllReadyH.nil
      go_simp
      refine hK.out _ _ ?s9 (fun hHeld => ?_)
      case s9 => exact hHeld
      clear hK K
      try simp only [Act.put, List.setIfInBounds_toArray, List.set_cons_zero, List.set_cons_succ]
      refine wpAnyH_take (i := 8) (oi := ?t10oi) (v := ?t10v) ?t10ho ?t10k1 ?t10k2 ?t10k3 (fun _ _ _ h => h) (Or.inl ⟨?t10kw, ?t10hy⟩) hHeld ?t10rest
      case t10ho => exact at_ops8 _ _ _ _ _ _ _ _ _ _
      case t10k1 => kernel_rfl
      case t10k2 => kernel_rfl
      case t10k3 => kernel_rfl
      case t10kw => rfl
      case t10hy => (intro w9 hS9; (try dsimp only at hS9); go_simp; try with_reducible rfl)
      try simp only [Act.put, List.setIfInBounds_toArray, List.set_cons_zero, List.set_cons_succ]
      refine wpAnyH_done (by kernel_rfl) ?_ _
      refine NoPanic.normal ?_
      have hQ5 := blk_below (blk_drew hQ4.out) hb5
      have hR5 := blk_below (blk_drew hR4.out) hb5
      have hB5 := below_step (below_drew hB4.out) hb5
      obtain ⟨q0, q1, q2, q3⟩ := cells4 hQ5
      obtain ⟨s0, s1⟩ := cells2 hR5
      have hk5 : seat.f1 ≤ 256 := by have := hbl.out; omega
      have hd0 := hd.1
      have hd1 := hd.2
      have eS : wrap64 (seat.f1 + d) = seat.f1 + d := w64 (by omega) (by omega)
      replace hRc := Lib.hid hRc
      clear z0 z1 z2 r0 r1 p0 p1 p2 p3 p4 p5 p6 p7 hQ5 hR5 hb5 hLr
      by_cases hi : 0 ≤ seat.f1 + d
      · have ti : decide (0 ≤ seat.f1 + d) = true := decide_eq_true hi
        by_cases hj : seat.f1 + d < cs.length
        · have tj : decide (seat.f1 + d < (cs.length : Int)) = true := decide_eq_true hj
          obtain ⟨ad4, eA, zc⟩ := Kd.at_int (Kd.R_reads' hRc.out).2.2 (seat.f1 + d) hi hj
          cases eA
          go_wp2
          go_ret
          exact ⟨rfl, hB5⟩
        · have tj : decide (seat.f1 + d < (cs.length : Int)) = false := decide_eq_false hj
          go_wp2
          go_ret
          exact ⟨rfl, hB5⟩
      · have ti : decide (0 ≤ seat.f1 + d) = false := decide_eq_false hi
        go_wp2
        go_ret
        exact ⟨rfl, hB5⟩
  | true =>
    obtain ⟨seat, hseat⟩ : ∃ x, rd_T91 (seatsOf H W bl ri be).2 at_ = x := ⟨_, rfl⟩
    have hres : stepOf H W bl ri be at_ true d = stepSeat H W bl ri be seat at_ d := by rw [← hseat]; rfl
    have hok : SeatOk (slotsOf H W bl ri be).length bl.length seat := by rw [← hseat]; exact hok.out
    obtain ⟨hk1, hk2, hk3, hk4⟩ := hok
    rw [hres]
    clear hres hok
    replace hseat := Lib.hid hseat
    by_cases hneg : seat.f0 < 0
    · have tn : decide (seat.f0 < 0) = true := decide_eq_true hneg
      have hfin : stepSeat H W bl ri be seat at_ d = at_ := by unfold stepSeat; rw [if_pos hneg]
      rw [hfin]
      clear hfin
      go_enter Tryd.func26, Tryd.ntmps26
      go_wp2_with (go_at_call 45; go_loud (refine (slots_Seats.calls _ _ _ _ _ _ _ _ _ _ _ _ _ _ (Kd.C_below hg.h2 hx.out.2.2) hg.c2 (Kd.C_below hg.h3 hx.out.2.2) hg.c3 (Kd.C_below hg.h4 hx.out.2.2) hg.c4 hS.out).mono ?_; rintro e w3 ⟨v0, v1, rfl, hr0, hr1, hb3⟩; have hP := blk_below hx.out.1 hb3; have hQ := blk_below hx.out.2.1 hb3; have hB := below_step hx.out.2.2 hb3; obtain ⟨p0, p1, p2, p3, p4, p5, p6, p7⟩ := cells8 hP; obtain ⟨q0, q1, q2, q3⟩ := cells4 hQ; have hz := blk_lt hQ; obtain ⟨B0, k0, rfl⟩ := Kd.R_slice hr1; have hC0 := (Kd.R_reads' hr1).2.2; obtain ⟨ad, eA, y0, y1⟩ := at_T91 hC0 at_ ha0 (by have := hsf.out.2.2.2; omega); cases eA; rw [hseat.out] at y0 y1; have hsf1 := hsf.out.2.2.2; rw [hsf1] at *; replace hP := Lib.hid hP; replace hQ := Lib.hid hQ; clear hr0 hr1 hb3 hC0))
      go_ret
      exact ⟨rfl, below_alloc hB _⟩
    · have tn : decide (seat.f0 < 0) = false := decide_eq_false hneg
      have hf0 : 0 ≤ seat.f0 := by omega
      obtain ⟨cs, hcs⟩ : ∃ x, (rd_T93 (slotsOf H W bl ri be) seat.f0).f2 = x := ⟨_, rfl⟩
      have hfin : stepSeat H W bl ri be seat at_ d = if 0 ≤ seat.f1 + d ∧ seat.f1 + d < cs.length then rd cs (seat.f1 + d) else at_ := by unfold stepSeat; rw [if_neg hneg, hcs]
      rw [hfin]
      clear hfin
      obtain ⟨L, hL⟩ : ∃ L, slotsOf H W bl ri be = L := ⟨_, rfl⟩
      have hLs : slots_List.f H W bl ri be = some L := by unfold slots_List.f; rw [hL]
      rw [hL] at hcs hk2
      replace hcs := Lib.hid hcs
      replace hLs := Lib.hid hLs
      clear hL
      go_enter Tryd.func26, Tryd.ntmps26
      go_wp2_with (go_at_call 45; go_loud (refine (slots_Seats.calls _ _ _ _ _ _ _ _ _ _ _ _ _ _ (Kd.C_below hg.h2 hx.out.2.2) hg.c2 (Kd.C_below hg.h3 hx.out.2.2) hg.c3 (Kd.C_below hg.h4 hx.out.2.2) hg.c4 hS.out).mono ?_; rintro e w3 ⟨v0, v1, rfl, hr0, hr1, hb3⟩; have hP := blk_below hx.out.1 hb3; have hQ := blk_below hx.out.2.1 hb3; have hB := below_step hx.out.2.2 hb3; obtain ⟨p0, p1, p2, p3, p4, p5, p6, p7⟩ := cells8 hP; obtain ⟨q0, q1, q2, q3⟩ := cells4 hQ; have hz := blk_lt hQ; obtain ⟨B0, k0, rfl⟩ := Kd.R_slice hr1; have hC0 := (Kd.R_reads' hr1).2.2; obtain ⟨ad, eA, y0, y1⟩ := at_T91 hC0 at_ ha0 (by have := hsf.out.2.2.2; omega); cases eA; rw [hseat.out] at y0 y1; have hsf1 := hsf.out.2.2.2; rw [hsf1] at *; replace hP := Lib.hid hP; replace hQ := Lib.hid hQ; clear hr0 hr1 hb3 hC0))
      have hP4 := blk_alloc hP.out (.cells #[.int .i64 seat.f0, .int .i64 seat.f1] 91)
      have hQ4 := blk_alloc hQ.out (.cells #[.int .i64 seat.f0, .int .i64 seat.f1] 91)
      have hR4 := blk_new w3 (.cells #[.int .i64 seat.f0, .int .i64 seat.f1] 91)
      have hB4 := below_alloc hB (.cells #[.int .i64 seat.f0, .int .i64 seat.f1] 91)
      generalize w3.alloc (.cells #[.int .i64 seat.f0, .int .i64 seat.f1] 91) = w4 at hP4 hQ4 hR4 hB4 ⊢
      clear y0 y1 p0 p1 p2 p3 p4 p5 p6 p7 q0 q1 q2 q3 hB hP hQ hx
      replace hP4 := Lib.hid hP4
      replace hQ4 := Lib.hid hQ4
      replace hR4 := Lib.hid hR4
      replace hB4 := Lib.hid hB4
      have hg4 := hg.below hB4.out
      obtain ⟨r0, r1⟩ := cells2 hR4.out
      obtain ⟨p0, p1, p2, p3, p4, p5, p6, p7⟩ := cells8 hP4.out
      refine wp_region_noPanic ?_
      refine wp_region_held_drew (S := (fun w' => w'.cell? ⟨w.heap.size, 1, none⟩ = some (.int .i64 H) ∧ w'.cell? ⟨w.heap.size, 2, none⟩ = some (.int .i64 W) ∧ w'.cell? ⟨w.heap.size, 3, none⟩ = some (.slice A2 bl.length c2) ∧ w'.cell? ⟨w.heap.size, 4, none⟩ = some (.slice A3 ri.length c3) ∧ w'.cell? ⟨w.heap.size, 5, none⟩ = some (.slice A4 be.length c4) ∧ w'.cell? ⟨w3.heap.size, 0, none⟩ = some (.int .i64 seat.f0))) (by kernel_rfl) ?s11 (fun hHeld => ?_)
      case s11 => ((try dsimp only); go_keep)
      refine wpAnyH_take (i := 0) (oi := ?t12oi) (v := ?t12v) ?t12ho ?t12k1 ?t12k2 ?t12k3 (fun _ _ _ h => h) (Or.inl ⟨?t12kw, ?t12hy⟩) hHeld ?t12rest
      case t12ho => exact at_ops0 _ _
      case t12k1 => kernel_rfl
      case t12k2 => kernel_rfl
      case t12k3 => kernel_rfl
      case t12kw => rfl
      case t12hy => (intro w9 hS9; (try dsimp only at hS9); go_simp; try with_reducible rfl)
      try simp only [Act.put, List.setIfInBounds_toArray, List.set_cons_zero, List.set_cons_succ]
      refine wpAnyH_take (i := 1) (oi := ?t13oi) (v := ?t13v) ?t13ho ?t13k1 ?t13k2 ?t13k3 (fun _ _ _ h => h) (Or.inl ⟨?t13kw, ?t13hy⟩) hHeld ?t13rest
      case t13ho => exact at_ops1 _ _ _
      case t13k1 => kernel_rfl
      case t13k2 => kernel_rfl
      case t13k3 => kernel_rfl
      case t13kw => rfl
      case t13hy => (intro w9 hS9; (try dsimp only at hS9); go_simp; try with_reducible rfl)
      try simp only [Act.put, List.setIfInBounds_toArray, List.set_cons_zero, List.set_cons_succ]
      refine wpAnyH_take (i := 3) (oi := ?t14oi) (v := ?t14v) ?t14ho ?t14k1 ?t14k2 ?t14k3 (fun _ _ _ h => h) (Or.inl ⟨?t14kw, ?t14hy⟩) hHeld ?t14rest
      case t14ho => exact at_ops3 _ _ _ _ _
      case t14k1 => kernel_rfl
      case t14k2 => kernel_rfl
      case t14k3 => kernel_rfl
      case t14kw => rfl
      case t14hy => (intro w9 hS9; (try dsimp only at hS9); go_simp; try with_reducible rfl)
      try simp only [Act.put, List.setIfInBounds_toArray, List.set_cons_zero, List.set_cons_succ]
      refine wpAnyH_take (i := 4) (oi := ?t15oi) (v := ?t15v) ?t15ho ?t15k1 ?t15k2 ?t15k3 (fun _ _ _ h => h) (Or.inl ⟨?t15kw, ?t15hy⟩) hHeld ?t15rest
      case t15ho => exact at_ops4 _ _ _ _ _ _
      case t15k1 => kernel_rfl
      case t15k2 => kernel_rfl
      case t15k3 => kernel_rfl
      case t15kw => rfl
      case t15hy => (intro w9 hS9; (try dsimp only at hS9); go_simp; try with_reducible rfl)
      try simp only [Act.put, List.setIfInBounds_toArray, List.set_cons_zero, List.set_cons_succ]
      refine wpAnyH_ready (rs := [2]) (by kernel_rfl) (by simp) ?_
      refine AllReadyH.cons (at_ops2 _ _ _ _) (fun K hK => ?_) AllReadyH.nil
      go_simp
      (go_at_call 34; refine (slots_List.calls _ _ _ _ _ _ _ _ _ _ _ _ _ ?s1 hg.c2 ?s2 hg.c3 ?s3 hg.c4 hLs.out).mono ?_; (case s1 => exact Kd.C_drewN hg4.h2 1); (case s2 => exact Kd.C_drewN hg4.h3 1); (case s3 => exact Kd.C_drewN hg4.h4 1); rintro e w5 ⟨vL, rfl, hLr, hb5⟩; obtain ⟨ad2, k2, B2, k3, rfl, z0, z1, z2, hRc⟩ := slot_cells hLr seat.f0 hf0 hk2; rw [hcs.out] at z2 hRc)
      refine hK.out _ _ ?s16 (fun hHeld => ?_)
      case s16 => exact ⟨pw_cell_below hb5 p1, pw_cell_below hb5 p2, pw_cell_below hb5 p3, pw_cell_below hb5 p4, pw_cell_below hb5 p5, pw_cell_below hb5 r0⟩
      clear hK K
      try simp only [Act.put, List.setIfInBounds_toArray, List.set_cons_zero, List.set_cons_succ]
      refine wpAnyH_take (i := 5) (oi := ?t17oi) (v := ?t17v) ?t17ho ?t17k1 ?t17k2 ?t17k3 (fun _ _ _ h => h) (Or.inl ⟨?t17kw, ?t17hy⟩) hHeld ?t17rest
      case t17ho => exact at_ops5 _ _ _ _ _ _ _
      case t17k1 => kernel_rfl
      case t17k2 => kernel_rfl
      case t17k3 => kernel_rfl
      case t17kw => rfl
      case t17hy => (intro w9 hS9; (try dsimp only at hS9); go_simp; try with_reducible rfl)
      try simp only [Act.put, List.setIfInBounds_toArray, List.set_cons_zero, List.set_cons_succ]
      refine wpAnyH_take (i := 6) (oi := ?t18oi) (v := ?t18v) ?t18ho ?t18k1 ?t18k2 ?t18k3 (fun _ _ _ h => h) (Or.inl ⟨?t18kw, ?t18hy⟩) hHeld ?t18rest
      case t18ho => exact at_ops6 _ _ _ _ _ _ _ _
      case t18k1 => kernel_rfl
      case t18k2 => kernel_rfl
      case t18k3 => kernel_rfl
      case t18kw => rfl
      case t18hy => (intro w9 hS9; (try dsimp only at hS9); go_simp; try with_reducible rfl)
      try simp only [Act.put, List.setIfInBounds_toArray, List.set_cons_zero, List.set_cons_succ]
      refine wpAnyH_ready (rs := [7]) (by kernel_rfl) (by simp) ?_
      refine AllReadyH.cons (at_ops7 _ _ _ _ _ _ _ _ _) (fun K hK => ?_) AllReadyH.nil
      go_simp
      refine hK.out _ _ ?s19 (fun hHeld => ?_)
      case s19 => exact hHeld
      clear hK K
      try simp only [Act.put, List.setIfInBounds_toArray, List.set_cons_zero, List.set_cons_succ]
      refine wpAnyH_take (i := 8) (oi := ?t20oi) (v := ?t20v) ?t20ho ?t20k1 ?t20k2 ?t20k3 (fun _ _ _ h => h) (Or.inl ⟨?t20kw, ?t20hy⟩) hHeld ?t20rest
      case t20ho => exact at_ops8 _ _ _ _ _ _ _ _ _ _
      case t20k1 => kernel_rfl
      case t20k2 => kernel_rfl
      case t20k3 => kernel_rfl
      case t20kw => rfl
      case t20hy => (intro w9 hS9; (try dsimp only at hS9); go_simp; try with_reducible rfl)
      try simp only [Act.put, List.setIfInBounds_toArray, List.set_cons_zero, List.set_cons_succ]
      refine wpAnyH_done (by kernel_rfl) ?_ _
      refine NoPanic.normal ?_
      have hQ5 := blk_below (blk_drew hQ4.out) hb5
      have hR5 := blk_below (blk_drew hR4.out) hb5
      have hB5 := below_step (below_drew hB4.out) hb5
      obtain ⟨q0, q1, q2, q3⟩ := cells4 hQ5
      obtain ⟨s0, s1⟩ := cells2 hR5
      have hk5 : seat.f1 ≤ 256 := by have := hbl.out; omega
      have hd0 := hd.1
      have hd1 := hd.2
      have eS : wrap64 (seat.f1 + d) = seat.f1 + d := w64 (by omega) (by omega)
      replace hRc := Lib.hid hRc
      clear z0 z1 z2 r0 r1 p0 p1 p2 p3 p4 p5 p6 p7 hQ5 hR5 hb5 hLr
      by_cases hi : 0 ≤ seat.f1 + d
      · have ti : decide (0 ≤ seat.f1 + d) = true := decide_eq_true hi
        by_cases hj : seat.f1 + d < cs.length
        · have tj : decide (seat.f1 + d < (cs.length : Int)) = true := decide_eq_true hj
          obtain ⟨ad4, eA, zc⟩ := Kd.at_int (Kd.R_reads' hRc.out).2.2 (seat.f1 + d) hi hj
          cases eA
          go_wp2
          go_ret
          exact ⟨rfl, hB5⟩
        · have tj : decide (seat.f1 + d < (cs.length : Int)) = false := decide_eq_false hj
          go_wp2
          go_ret
          exact ⟨rfl, hB5⟩
      · have ti : decide (0 ≤ seat.f1 + d) = false := decide_eq_false hi
        go_wp2
        go_ret
        exact ⟨rfl, hB5⟩
end Go.Proofs.YtiipailmldbpbaaDoor.Q
end
section
namespace Go.Proofs.YtiipailmldbpbaaDoor.Q
open Go.RowKit Go.Proofs.YtiipailmldbpbaaDoorW.PrintWords Go.Proofs.YtiipailmldbpbaaDoorW.PrintLast Go.Proofs.YtiipailmldbpbaaDoorW.PrintMore
attribute [local go_sem] max2_int min2_int max_two min_two max_three min_three max_four min_four
set_option linter.unusedVariables false
set_option linter.unusedSimpArgs false
open Go.Proofs.YtiipailmldbpbaaDoorS
theorem slices_Clone_bool_bool_info : (Tryd.prog.info? 4).map (fun i => (i.zero, i.size, i.bytes)) = some (some (.bool false), 1, 1) := by kernel_rfl
def slices_Clone_bool_bool.f (l0 : List Bool) : Option (List Bool) := if l0.length < 140737488355328 then some l0 else none
set_option maxHeartbeats 8000000 in
set_option maxRecDepth 100000 in
theorem slices_Clone_bool_bool.calls (A0 : Option Addr) (c0 : Nat) (l0 : List Bool) (r : List Bool) (w : World) (hr0 : Kd.C Kd.bool w A0 l0.length l0) (hc0 : l0.length ≤ c0) (h : slices_Clone_bool_bool.f l0 = some r) :
    Calls Tryd.prog 37 #[.slice A0 l0.length c0] w fun e w' => ∃ v0_ : Value, e = .returned (v0_) ∧ Kd.R Kd.bool 4 w' w.heap.size (fun _ => True) v0_ r ∧ Below w.heap.size w w' := by
  obtain ⟨hl, rfl⟩ := guard_some h
  clear h
  cases A0 with
  | none =>
    have h0 : l0 = [] := by
      cases l0 with
      | nil => rfl
      | cons x l => obtain ⟨ad, e, _⟩ := hr0.2.2 (by simp); cases e
    subst h0
    have hnil := fun (w : World) (e : TypeId) (a : Option Addr) (l c : Nat) (h : Tryd.prog.underlying 22 = some (.slice e)) => Lib.run_eql_slice_nil w 22 e a l c 0 0 h
    replace hnil := fun (w : World) (a : Option Addr) (l c : Nat) => hnil w _ a l c Tryd.underlying22
    go_enter Tryd.func37, Tryd.ntmps37
    go_wp2
    go_ret
    exact ⟨_, rfl, Kd.R_nil _ _ _ _ _, Below.refl _ _⟩
  | some ad =>
    have hnil := fun (w : World) (e : TypeId) (a : Option Addr) (l c : Nat) (h : Tryd.prog.underlying 22 = some (.slice e)) => Lib.run_eql_slice_nil w 22 e a l c 0 0 h
    replace hnil := fun (w : World) (a : Option Addr) (l c : Nat) => hnil w _ a l c Tryd.underlying22
    have HR0 := Aside0.mk hr0
    clear hr0
    have HB := Aside0.mk (Below.refl w.heap.size w)
    obtain ⟨y, hy⟩ : ∃ y_ : List Bool, y_ = (([] : List Bool)) := ⟨_, rfl⟩
    have Ny := Aside0.mk hy
    have hyl : y.length + l0.length < 140737488355328 := by rw [hy]; simpa using hl
    have HL := Aside0.mk hyl
    clear hyl hy hl
    go_enter Tryd.func37, Tryd.ntmps37
    go_wp2_with (first | ((with_reducible refine gate_dst (N := 5) rfl ?_); refine Kd.R_lit Kd.bool _ 4 ?hg (N := 5) ?hd (xs := ([] : List Bool)) (inner := []) (ok := fun _ => True) (okp := fun _ => True) ?hr ?hp (fun _ hk => hk) trivial (Below.refl _ _) (Nat.le_refl _) (by simp) ?_; (case hd => rfl); (case hg => rfl); (case hr => first | (go_simp; done) | (go_simp; rfl)); (case hp => exact (Reps.none _ _)); intro v1 w3 ho4 hb hg_ hnew_; clear hg_ hnew_; rw [← Ny.out] at ho4; have HO := Aside0.mk ho4; have HB2 := Aside0.mk hb; clear hb ho4) | ((with_reducible refine gate_builtin (b := .append) (xs := #[.tmp 5, .tmp 6]) rfl ?_); at_builtin; refine Kd.R_append_rows Kd.bool (w0 := w) w.heap.size rfl (.tmp 5) (.tmp 6) 22 4 (.bool false) 1 rfl Tryd.underlying22 slices_Clone_bool_bool_info rfl (by decide) (by omega) v1 y l0 _ _ _ (fun _ => True) (fun _ => False) rfl rfl ?aO ?aR (fun _ _ h => h) (fun _ h => h.elim) ?aF ?aB ?aS ?aL ?_; (case aR => exact Kd.C_below HR0.out HB2.out); (case aB => exact HB2.out); (case aF => exact (fun _ _ => trivial)); (case aO => exact HO.out); (case aS => exact HB2.out.size); (case aL => have := HL.out; omega); intro v2 w5 ho hb hg hat; have HB3 := Aside0.mk hb; have HO3 := Aside0.mk ho; clear hb hg hat ho))
    go_ret
    refine ⟨_, rfl, ?_, HB3.out⟩
    have := HO3.out
    rw [Ny.out, List.nil_append] at this
    exact this
end Go.Proofs.YtiipailmldbpbaaDoor.Q
end
section
namespace Go.Proofs.YtiipailmldbpbaaDoor.Q
open Go.RowKit Go.Proofs.YtiipailmldbpbaaDoorW.PrintWords Go.Proofs.YtiipailmldbpbaaDoorW.PrintLast Go.Proofs.YtiipailmldbpbaaDoorW.PrintMore
attribute [local go_sem] max2_int min2_int max_two min_two max_three min_three max_four min_four
set_option linter.unusedVariables false
set_option linter.unusedSimpArgs false
def sheet_copied.f (l0_0 : List ByteArray) (l0_1 : List Bool) (a0_2 : Int) (a0_3 : Bool) : Option (List ByteArray × List Bool × Int × Bool) := (slices_Clone_string_string.f l0_0).bind fun t191 => ((slices_Clone_bool_bool.f l0_1).bind fun t194 => (some (t191, t194, a0_2, a0_3)))
def sheet_copied.T1 : Bool × List (List Nat × List Nat) := (true, [([], []), ([0], [0]), ([1], [1]), ([], []), ([3], [3]), ([4, 2], [4]), ([0, 1, 2, 3, 4], []), ([6, 2, 5, 0, 1, 2, 3, 4], [2, 6]), ([0, 1, 2, 3, 4, 5, 6, 7], []), ([8, 5, 7, 0, 1, 2, 3, 4, 5, 6, 7], [5, 8])])
def sheet_copied.B1 : List Nat := [0, 1, 3, 0, 8, 31, 31, 127, 255, 511]
theorem sheet_copied.tab1 : rtab .any (opsOf Tryd.f22 1) = sheet_copied.T1 := by kernel_rfl
theorem sheet_copied.bits1 : waitsOk sheet_copied.T1.2 sheet_copied.B1 = true := by kernel_rfl
set_option maxHeartbeats 8000000 in
set_option maxRecDepth 100000 in
theorem sheet_copied.calls (A0_0 : Option Addr) (c0_0 : Nat) (l0_0 : List ByteArray) (A0_1 : Option Addr) (c0_1 : Nat) (l0_1 : List Bool) (a0_2 : Int) (a0_3 : Bool) (r1 : List ByteArray) (r2 : List Bool) (r3 : Int) (r4 : Bool) (w : World) (hr0_0 : Kd.C Kd.string w A0_0 l0_0.length l0_0) (hc0_0 : l0_0.length ≤ c0_0) (hr0_1 : Kd.C Kd.bool w A0_1 l0_1.length l0_1) (hc0_1 : l0_1.length ≤ c0_1) (h : sheet_copied.f l0_0 l0_1 a0_2 a0_3 = some (r1, r2, r3, r4)) :
    Calls Tryd.prog 22 #[.agg #[.slice A0_0 l0_0.length c0_0, .slice A0_1 l0_1.length c0_1, .int .i64 a0_2, .bool a0_3]] w fun e w' => ∃ v0_ v1_ : Value, e = .returned (.agg #[v0_, v1_, .int .i64 r3, .bool r4]) ∧ Kd.R Kd.string 9 w' w.heap.size (fun _ => True) v0_ r1 ∧ Kd.R Kd.bool 4 w' w.heap.size (fun _ => True) v1_ r2 ∧ Below w.heap.size w w' := by
  have hu30 := Tryd.underlying30
  have HR0_0 := Aside0.mk hr0_0
  have HC0_0 := Aside0.mk hc0_0
  clear hr0_0 hc0_0
  have HR0_1 := Aside0.mk hr0_1
  have HC0_1 := Aside0.mk hc0_1
  clear hr0_1 hc0_1
  have HB := Aside0.mk (Below.refl w.heap.size w)
  have H : ((slices_Clone_string_string.f l0_0).bind fun t191 => ((slices_Clone_bool_bool.f l0_1).bind fun t194 => (some (t191, t194, a0_2, a0_3)))) = some (r1, r2, r3, r4) := h
  clear h
  replace H := Option.bind_eq_some_iff.mp H
  obtain ⟨t191, A20, H⟩ := H
  replace H : ((slices_Clone_bool_bool.f l0_1).bind fun t194 => (some (t191, t194, a0_2, a0_3))) = some (r1, r2, r3, r4) := H
  have A2 := Aside0.mk A20
  clear A20
  replace H := Option.bind_eq_some_iff.mp H
  obtain ⟨t194, A30, H⟩ := H
  replace H : (some (t191, t194, a0_2, a0_3)) = some (r1, r2, r3, r4) := H
  have A3 := Aside0.mk A30
  clear A30
  simp only [Option.some.injEq, Prod.mk.injEq] at H
  obtain ⟨rfl, rfl, rfl, rfl⟩ := H
  go_enter Tryd.func22, Tryd.ntmps22
  try go_wp2_with (first | ((with_reducible refine gate_dst (N := 1) rfl ?_); refine box_event ?hg (N := 1) ?hd (cs := #[.slice A0_0 l0_0.length c0_0, .slice A0_1 l0_1.length c0_1, .int .i64 a0_2, .bool a0_3]) (t := 30) ?hr ?_; (case hd => rfl); (case hg => rfl); (case hr => first | (go_simp; done) | (go_simp; rfl)); intro gb189 hg w4 hbox hb; have n0_ := Aside0.mk (below_step (by repeat (first | (with_reducible first | exact HB.out | apply below_alloc | apply pw_below_drewN | apply below_drew1) | exact HB.out)) hb); have n1_ := Aside0.mk (hbox); have n2_ := Aside0.mk ((by rw [hg]; exact (below_size (by repeat (first | (with_reducible first | exact HB.out | apply below_alloc | apply pw_below_drewN | apply below_drew1) | exact HB.out))) : w.heap.size ≤ gb189)); have n3_ := Aside0.mk ((by rw [hg]; exact (below_size (by repeat (first | (with_reducible first | exact HB.out | apply below_alloc | apply pw_below_drewN | apply below_drew1) | exact HB.out))) : w.heap.size ≤ gb189)); clear HB; have HB := n0_; have BK189 := n1_; have GW189 := n2_; have GE189 := n3_; clear n0_ n1_ n2_ n3_; clear hb hbox hg) | ((with_reducible refine gate_dst (N := 2) rfl ?_); refine box_event ?hg (N := 2) ?hd (cs := #[.slice none 0 0, .slice none 0 0, .int .i64 0, .bool false]) (t := 30) ?hr ?_; (case hd => rfl); (case hg => rfl); (case hr => first | (go_simp; done) | (go_simp; rfl)); intro gb190 hg w5 hbox hb; have n0_ := Aside0.mk (blk_below (g := gb189) (o := .cells #[.slice A0_0 l0_0.length c0_0, .slice A0_1 l0_1.length c0_1, .int .i64 a0_2, .bool a0_3] 30 (0, 0)) (by (with_reducible repeat (first | refine blk_drewN ?_ _ | refine blk_drew ?_ | refine blk_alloc ?_ _)); exact BK189.out) hb); have n1_ := Aside0.mk (below_step (by repeat (first | (with_reducible first | exact HB.out | apply below_alloc | apply pw_below_drewN | apply below_drew1 | refine below_set ?_ GE189.out) | exact HB.out)) hb); have n2_ := Aside0.mk (hbox); have n3_ := Aside0.mk ((by rw [hg]; exact (below_size (by repeat (first | (with_reducible first | exact HB.out | apply below_alloc | apply pw_below_drewN | apply below_drew1 | refine below_set ?_ GE189.out) | exact HB.out))) : w.heap.size ≤ gb190)); have n4_ := Aside0.mk ((by rw [hg]; exact (below_size (by repeat (first | (with_reducible first | exact HB.out | apply below_alloc | apply pw_below_drewN | apply below_drew1 | refine below_set ?_ GE189.out) | exact HB.out))) : w.heap.size ≤ gb190)); have n5_ := Aside0.mk ((by rw [hg]; exact Nat.ne_of_lt (blk_lt (g := gb189) (o := .cells #[.slice A0_0 l0_0.length c0_0, .slice A0_1 l0_1.length c0_1, .int .i64 a0_2, .bool a0_3] 30 (0, 0)) (by (with_reducible repeat (first | refine blk_drewN ?_ _ | refine blk_drew ?_ | refine blk_alloc ?_ _)); exact BK189.out)) : gb189 ≠ gb190)); have n6_ := Aside0.mk ((by rw [hg]; exact Nat.ne_of_gt (blk_lt (g := gb189) (o := .cells #[.slice A0_0 l0_0.length c0_0, .slice A0_1 l0_1.length c0_1, .int .i64 a0_2, .bool a0_3] 30 (0, 0)) (by (with_reducible repeat (first | refine blk_drewN ?_ _ | refine blk_drew ?_ | refine blk_alloc ?_ _)); exact BK189.out)) : gb190 ≠ gb189)); clear BK189; clear HB; have BK189 := n0_; have HB := n1_; have BK190 := n2_; have GW190 := n3_; have GE190 := n4_; have NB189_190 := n5_; have NB190_189 := n6_; clear n0_ n1_ n2_ n3_ n4_ n5_ n6_; clear hb hbox hg))
  have n0_ := Aside0.mk (blk_drew BK189.out)
  have n1_ := Aside0.mk (blk_drew BK190.out)
  have n2_ := Aside0.mk (below_drew1 HB.out)
  clear BK189
  clear BK190
  clear HB
  have BK189 := n0_
  have BK190 := n1_
  have HB := n2_
  clear n0_ n1_ n2_
  refine start_ (n := 10) (S := fun w' => w'.cell? ⟨gb189, 0, none⟩ = some (.slice A0_0 l0_0.length c0_0) ∧ w'.cell? ⟨gb189, 1, none⟩ = some (.slice A0_1 l0_1.length c0_1) ∧ w'.cell? ⟨gb189, 2, none⟩ = some (.int .i64 a0_2) ∧ w'.cell? ⟨gb189, 3, none⟩ = some (.bool a0_3)) (ds := [7, 9]) #[false, false, false, false, false, false, false, false, false, false] (by kernel_rfl) rfl rfl ⟨(blk_cell BK189.out 0).trans rfl, (blk_cell BK189.out 1).trans rfl, (blk_cell BK189.out 2).trans rfl, (blk_cell BK189.out 3).trans rfl⟩ (fun hHeld => ?_); refine with_tabW sheet_copied.tab1 sheet_copied.bits1 (fun HT_ HW_ => ?_)
  generalize w5.drew = w6 at BK189 BK190 HB hHeld ⊢
  refine pure_ (i := 0) (N := some 3) (v := ?_) (a' := ?_) #[true, false, false, false, false, false, false, false, false, false] rfl rfl (any_of HT_.out (by kernel_rfl)) (fun _ _ _ h => h) (Or.inl ⟨by rfl, ?_⟩) ?_ ?_
  rotate_left
  · intro w'
    go_simp
    with_reducible rfl
  rotate_left
  · simp only [Act.put, List.setIfInBounds_toArray, List.set_cons_zero, List.set_cons_succ, i64_w, i32_w]
    rfl
  refine pure_ (i := 3) (N := some 6) (v := ?_) (a' := ?_) #[true, false, false, true, false, false, false, false, false, false] rfl rfl (any_of HT_.out (by kernel_rfl)) (fun _ _ _ h => h) (Or.inl ⟨by rfl, ?_⟩) ?_ ?_
  rotate_left
  · intro w'
    go_simp
    with_reducible rfl
  rotate_left
  · simp only [Act.put, List.setIfInBounds_toArray, List.set_cons_zero, List.set_cons_succ, i64_w, i32_w]
    rfl
  refine take_ (i := 1) (N := some 4) (v := ?_) (a' := ?_) #[true, true, false, true, false, false, false, false, false, false] rfl rfl (take_ofW HT_.out HW_.out (by kernel_rfl)) (fun _ _ _ h => h) (Or.inl ⟨by rfl, ?_⟩) hHeld ?_ ?_
  rotate_left
  · rintro w' ⟨s0, s1, s2, s3⟩
    go_simp
    with_reducible rfl
  rotate_left
  · simp only [Act.put, List.setIfInBounds_toArray, List.set_cons_zero, List.set_cons_succ, i64_w, i32_w]
    rfl
  refine take_ (i := 4) (N := some 7) (v := ?_) (a' := ?_) #[true, true, false, true, true, false, false, false, false, false] rfl rfl (take_ofW HT_.out HW_.out (by kernel_rfl)) (fun _ _ _ h => h) (Or.inl ⟨by rfl, ?_⟩) hHeld ?_ ?_
  rotate_left
  · rintro w' ⟨s0, s1, s2, s3⟩
    go_simp
    with_reducible rfl
  rotate_left
  · simp only [Act.put, List.setIfInBounds_toArray, List.set_cons_zero, List.set_cons_succ, i64_w, i32_w]
    rfl
  refine one_ (i := 2) (N := some 5) #[true, true, true, true, true, false, false, false, false, false] rfl rfl (one_of HT_.out (by kernel_rfl)) (by decide) (fun K hK => ?_)
  refine goes_ Tryd.func35 (by kernel_rfl) rfl #[.slice A0_0 l0_0.length c0_0] (by rfl) rfl rfl (by (try simp only [List.map_toArray, List.map_cons, List.map_nil]); first | done | rfl | (simp only [List.length_drop, List.length_take]; rfl)) ?_
  with_reducible refine (slices_Clone_string_string.calls _ _ l0_0 t191 _ ?side1 ?side2 A2.out).mono ?_
  (case side1 => repeat (first | exact (Kd.C_below HR0_0.out HB.out) | (with_reducible refine Kd.C_alloc ?_ _) | (with_reducible refine Kd.C_drewN ?_ _) | (with_reducible refine Kd.C_drew ?_)))
  (case side2 => exact HC0_0.out)
  rintro e w7 ⟨v192, rfl, ho0, hb⟩
  refine ⟨_, rfl, ?_⟩
  have n0_ := Aside0.mk (Kd.R_lower ho0 (below_size (by repeat (first | (with_reducible first | exact HB.out | apply below_alloc | apply pw_below_drewN | apply below_drew1 | refine below_set ?_ GE189.out | refine below_set ?_ GE190.out) | exact HB.out))))
  have n1_ := Aside0.mk (blk_below (g := gb189) (o := .cells #[.slice A0_0 l0_0.length c0_0, .slice A0_1 l0_1.length c0_1, .int .i64 a0_2, .bool a0_3] 30 (0, 0)) (by (with_reducible repeat (first | refine blk_drewN ?_ _ | refine blk_drew ?_ | refine blk_alloc ?_ _)); exact BK189.out) hb)
  have n2_ := Aside0.mk (blk_below (g := gb190) (o := .cells #[.slice none 0 0, .slice none 0 0, .int .i64 0, .bool false] 30 (0, 0)) (by (with_reducible repeat (first | refine blk_drewN ?_ _ | refine blk_drew ?_ | refine blk_alloc ?_ _)); exact BK190.out) hb)
  have n3_ := Aside0.mk (below_step (by repeat (first | (with_reducible first | exact HB.out | apply below_alloc | apply pw_below_drewN | apply below_drew1 | refine below_set ?_ GE189.out | refine below_set ?_ GE190.out) | exact HB.out)) hb)
  clear BK189
  clear BK190
  clear HB
  have HO193 := n0_
  have BK189 := n1_
  have BK190 := n2_
  have HB := n3_
  clear n0_ n1_ n2_ n3_
  (try clear hb)
  (try clear hb2)
  (try clear hk)
  (try clear hi)
  (try clear ho0)
  refine hK.out _ _ ⟨(blk_cell BK189.out 0).trans rfl, (blk_cell BK189.out 1).trans rfl, (blk_cell BK189.out 2).trans rfl, (blk_cell BK189.out 3).trans rfl⟩ (fun hHeld => ?_)
  clear hK K
  refine norm_ (a' := ?_) ?_ ?_
  rotate_left
  · show Act.put _ (some 5) _ = _
    simp only [Act.put, List.setIfInBounds_toArray, List.set_cons_zero, List.set_cons_succ, i64_w, i32_w]
    rfl
  refine pure_ (i := 6) (N := some 9) (v := ?_) (a' := ?_) #[true, true, true, true, true, false, true, false, false, false] rfl rfl (any_of HT_.out (by kernel_rfl)) (fun _ _ _ h => h) (Or.inl ⟨by rfl, ?_⟩) ?_ ?_
  rotate_left
  · intro w'
    go_simp
    with_reducible rfl
  rotate_left
  · simp only [Act.put, List.setIfInBounds_toArray, List.set_cons_zero, List.set_cons_succ, i64_w, i32_w]
    rfl
  refine one_ (i := 5) (N := some 8) #[true, true, true, true, true, true, true, false, false, false] rfl rfl (one_of HT_.out (by kernel_rfl)) (by decide) (fun K hK => ?_)
  refine goes_ Tryd.func37 (by kernel_rfl) rfl #[.slice A0_1 l0_1.length c0_1] (by rfl) rfl rfl (by (try simp only [List.map_toArray, List.map_cons, List.map_nil]); first | done | rfl | (simp only [List.length_drop, List.length_take]; rfl)) ?_
  with_reducible refine (slices_Clone_bool_bool.calls _ _ l0_1 t194 _ ?side1 ?side2 A3.out).mono ?_
  (case side1 => repeat (first | exact (Kd.C_below HR0_1.out HB.out) | (with_reducible refine Kd.C_alloc ?_ _) | (with_reducible refine Kd.C_drewN ?_ _) | (with_reducible refine Kd.C_drew ?_)))
  (case side2 => exact HC0_1.out)
  rintro e w8 ⟨v195, rfl, ho0, hb⟩
  refine ⟨_, rfl, ?_⟩
  have n0_ := Aside0.mk (Kd.R_below (by (with_reducible repeat (first | apply Kd.R_alloc | apply Kd.R_drewN | apply Kd.R_drew)); exact HO193.out) hb)
  have n1_ := Aside0.mk (Kd.R_lower ho0 (below_size (by repeat (first | (with_reducible first | exact HB.out | apply below_alloc | apply pw_below_drewN | apply below_drew1 | refine below_set ?_ GE189.out | refine below_set ?_ GE190.out) | exact HB.out))))
  have n2_ := Aside0.mk (blk_below (g := gb189) (o := .cells #[.slice A0_0 l0_0.length c0_0, .slice A0_1 l0_1.length c0_1, .int .i64 a0_2, .bool a0_3] 30 (0, 0)) (by (with_reducible repeat (first | refine blk_drewN ?_ _ | refine blk_drew ?_ | refine blk_alloc ?_ _)); exact BK189.out) hb)
  have n3_ := Aside0.mk (blk_below (g := gb190) (o := .cells #[.slice none 0 0, .slice none 0 0, .int .i64 0, .bool false] 30 (0, 0)) (by (with_reducible repeat (first | refine blk_drewN ?_ _ | refine blk_drew ?_ | refine blk_alloc ?_ _)); exact BK190.out) hb)
  have n4_ := Aside0.mk (below_step (by repeat (first | (with_reducible first | exact HB.out | apply below_alloc | apply pw_below_drewN | apply below_drew1 | refine below_set ?_ GE189.out | refine below_set ?_ GE190.out) | exact HB.out)) hb)
  clear HO193
  clear BK189
  clear BK190
  clear HB
  have HO193 := n0_
  have HO196 := n1_
  have BK189 := n2_
  have BK190 := n3_
  have HB := n4_
  clear n0_ n1_ n2_ n3_ n4_
  (try clear hb)
  (try clear hb2)
  (try clear hk)
  (try clear hi)
  (try clear ho0)
  obtain ⟨Ao9, co9, eo9⟩ := Kd.R_slice HO193.out
  (first | subst eo9 | (injection eo9 with f1_ f2_ f3_; have f4_ := f1_.symm; have f5_ := f3_.symm; clear f1_ f2_ f3_; subst f4_; subst f5_))
  obtain ⟨Ao11, co11, eo11⟩ := Kd.R_slice HO196.out
  (first | subst eo11 | (injection eo11 with f1_ f2_ f3_; have f4_ := f1_.symm; have f5_ := f3_.symm; clear f1_ f2_ f3_; subst f4_; subst f5_))
  refine hK.out _ _ ⟨(blk_cell BK189.out 0).trans rfl, (blk_cell BK189.out 1).trans rfl, (blk_cell BK189.out 2).trans rfl, (blk_cell BK189.out 3).trans rfl⟩ (fun hHeld => ?_)
  clear hK K
  refine norm_ (a' := ?_) ?_ ?_
  rotate_left
  · show Act.put _ (some 8) _ = _
    simp only [Act.put, List.setIfInBounds_toArray, List.set_cons_zero, List.set_cons_succ, i64_w, i32_w]
    rfl
  refine last_ (i := 7) (N := none) #[true, true, true, true, true, true, true, true, false, false] rfl rfl (one_of HT_.out (by kernel_rfl)) (by decide) (fun K hK => ?_)
  have hs10 : w8.cell? ⟨gb189, 0, none⟩ = some (.slice A0_0 l0_0.length c0_0) := (blk_cell BK189.out 0).trans rfl
  have hfs10 := blk_frozen BK189.out 0
  have hns10_1 := NB190_189.out
  have hms10_1 := NB189_190.out
  refine skip_ (w1 := ?_) (by rfl) rfl ?_ ?_
  rotate_left
  · go_simp
    rfl
  refine hK.out _ _ ?_
  clear hK K
  refine pure_ (i := 8) (N := some 10) (v := ?_) (a' := ?_) #[true, true, true, true, true, true, true, true, true, false] rfl rfl (any_of HT_.out (by kernel_rfl)) (fun _ _ _ h => h) (Or.inl ⟨by rfl, ?_⟩) ?_ ?_
  rotate_left
  · intro w'
    go_simp
    with_reducible rfl
  rotate_left
  · simp only [Act.put, List.setIfInBounds_toArray, List.set_cons_zero, List.set_cons_succ, i64_w, i32_w]
    rfl
  refine last_ (i := 9) (N := none) #[true, true, true, true, true, true, true, true, true, true] rfl rfl (one_of HT_.out (by kernel_rfl)) (by decide) (fun K hK => ?_)
  have hs12 : w8.cell? ⟨gb189, 1, none⟩ = some (.slice A0_1 l0_1.length c0_1) := (blk_cell BK189.out 1).trans rfl
  have hfs12 := blk_frozen BK189.out 1
  have hns12_1 := NB190_189.out
  have hms12_1 := NB189_190.out
  refine skip_ (w1 := ?_) (by rfl) rfl ?_ ?_
  rotate_left
  · go_simp
    rfl
  refine hK.out _ _ ?_
  clear hK K
  refine done_ (done_of HT_.out (by kernel_rfl)) ?_
  have hnb13 := NB189_190.out
  have hnc13 := NB190_189.out
  have hcz14_0 : w8.cell? ⟨gb189, 0, none⟩ = some (.slice A0_0 l0_0.length c0_0) := (blk_cell BK189.out 0).trans rfl
  have hcz14_1 : w8.cell? ⟨gb189, 1, none⟩ = some (.slice A0_1 l0_1.length c0_1) := (blk_cell BK189.out 1).trans rfl
  have hcz14_2 : w8.cell? ⟨gb189, 2, none⟩ = some (.int .i64 a0_2) := (blk_cell BK189.out 2).trans rfl
  have hcz14_3 : w8.cell? ⟨gb189, 3, none⟩ = some (.bool a0_3) := (blk_cell BK189.out 3).trans rfl
  have hfz14_0 := blk_frozen BK189.out 0
  have hfz14_1 := blk_frozen BK189.out 1
  have hfz14_2 := blk_frozen BK189.out 2
  have hfz14_3 := blk_frozen BK189.out 3
  have hcz15_0 : w8.cell? ⟨gb190, 0, none⟩ = some (.slice none 0 0) := (blk_cell BK190.out 0).trans rfl
  have hcz15_1 : w8.cell? ⟨gb190, 1, none⟩ = some (.slice none 0 0) := (blk_cell BK190.out 1).trans rfl
  have hcz15_2 : w8.cell? ⟨gb190, 2, none⟩ = some (.int .i64 0) := (blk_cell BK190.out 2).trans rfl
  have hcz15_3 : w8.cell? ⟨gb190, 3, none⟩ = some (.bool false) := (blk_cell BK190.out 3).trans rfl
  have hfz15_0 := blk_frozen BK190.out 0
  have hfz15_1 := blk_frozen BK190.out 1
  have hfz15_2 := blk_frozen BK190.out 2
  have hfz15_3 := blk_frozen BK190.out 3
  try go_wp2
  refine bodyPost_ret (results_cell_row rfl _ _ gb190 30 #[.slice Ao9 t191.length co9, .slice Ao11 t194.length co11, .int .i64 a0_2, .bool a0_3] (0, 0) _ rfl (by (with_reducible repeat (first | refine blk_drewN ?_ _ | refine blk_drew ?_ | refine blk_alloc ?_ _)); refine blk_put (cs := #[.slice Ao9 t191.length co9, .slice Ao11 t194.length co11, .int .i64 a0_2, .bool false]) ?_ 3 _ rfl; (with_reducible repeat (first | refine blk_drewN ?_ _ | refine blk_drew ?_ | refine blk_alloc ?_ _)); refine blk_put (cs := #[.slice Ao9 t191.length co9, .slice Ao11 t194.length co11, .int .i64 0, .bool false]) ?_ 2 _ rfl; (with_reducible repeat (first | refine blk_drewN ?_ _ | refine blk_drew ?_ | refine blk_alloc ?_ _)); refine blk_put (cs := #[.slice Ao9 t191.length co9, .slice none 0 0, .int .i64 0, .bool false]) ?_ 1 _ rfl; (with_reducible repeat (first | refine blk_drewN ?_ _ | refine blk_drew ?_ | refine blk_alloc ?_ _)); refine blk_put (cs := #[.slice none 0 0, .slice none 0 0, .int .i64 0, .bool false]) ?_ 0 _ rfl; (with_reducible repeat (first | refine blk_drewN ?_ _ | refine blk_drew ?_ | refine blk_alloc ?_ _)); refine blk_far ?_ NB190_189.out _; (with_reducible repeat (first | refine blk_drewN ?_ _ | refine blk_drew ?_ | refine blk_alloc ?_ _)); refine blk_far ?_ NB190_189.out _; (with_reducible repeat (first | refine blk_drewN ?_ _ | refine blk_drew ?_ | refine blk_alloc ?_ _)); exact BK190.out) Tryd.underlying30 rfl (by kernel_rfl)) rfl ?_
  exact ⟨_, _, by first | rfl | (simp [errW_none, errW_some] <;> rfl) | (simp [*, errW_none, errW_some] <;> rfl) | (exfalso; contradiction), by (with_reducible repeat (first | apply Kd.R_alloc | apply Kd.R_drewN | apply Kd.R_drew)); exact Kd.R_mono (Kd.R_far (p := ⟨gb190, 3, none⟩) (Kd.R_far (p := ⟨gb190, 2, none⟩) (Kd.R_far (p := ⟨gb190, 1, none⟩) (Kd.R_far (p := ⟨gb190, 0, none⟩) (Kd.R_far (p := ⟨gb189, 1, none⟩) (Kd.R_far (p := ⟨gb189, 0, none⟩) (Kd.R_types (Kd.R_types HO193.out BK189.out (by decide)) BK190.out (by decide)) (fun _ hk => hk.1.2) (.slice Ao9 t191.length co9)) (fun _ hk => hk.1.2) (.slice Ao11 t194.length co11)) (fun _ hk => hk.2) (.slice Ao9 t191.length co9)) (fun _ hk => hk.2) (.slice Ao11 t194.length co11)) (fun _ hk => hk.2) (.int .i64 a0_2)) (fun _ hk => hk.2) (.bool a0_3)) (fun _ hk => trivial), by (with_reducible repeat (first | apply Kd.R_alloc | apply Kd.R_drewN | apply Kd.R_drew)); exact Kd.R_mono (Kd.R_far (p := ⟨gb190, 3, none⟩) (Kd.R_far (p := ⟨gb190, 2, none⟩) (Kd.R_far (p := ⟨gb190, 1, none⟩) (Kd.R_far (p := ⟨gb190, 0, none⟩) (Kd.R_far (p := ⟨gb189, 1, none⟩) (Kd.R_far (p := ⟨gb189, 0, none⟩) (Kd.R_types (Kd.R_types HO196.out BK189.out (by decide)) BK190.out (by decide)) (fun _ hk => hk.1.2) (.slice Ao9 t191.length co9)) (fun _ hk => hk.1.2) (.slice Ao11 t194.length co11)) (fun _ hk => hk.2) (.slice Ao9 t191.length co9)) (fun _ hk => hk.2) (.slice Ao11 t194.length co11)) (fun _ hk => hk.2) (.int .i64 a0_2)) (fun _ hk => hk.2) (.bool a0_3)) (fun _ hk => trivial), by repeat (first | (with_reducible first | exact HB.out | apply below_alloc | apply pw_below_drewN | apply below_drew1 | refine below_set ?_ GE189.out | refine below_set ?_ GE190.out) | exact HB.out)⟩
end Go.Proofs.YtiipailmldbpbaaDoor.Q
end
