/- PART 20 OF A PROOF: Lean functions, and that the program computes them; written by hand and by a program. Not trusted: Lean checks it. -/
import Derived.Test.YtiipailmldbpbaaGreatDoorZa18
import Derived.Test.YtiipailmldbpbaaGreatDoorZa19
set_option linter.unusedVariables false
set_option linter.unusedSimpArgs false
namespace Go.Proofs.YtiipailmldbpbaaGreatDoor.Q
open Go.RowKit Go.Proofs.YtiipailmldbpbaaGreatDoorW.PrintWords Go.Proofs.YtiipailmldbpbaaGreatDoorW.PrintLast Go.Proofs.YtiipailmldbpbaaGreatDoorW.PrintMore
set_option linter.unusedVariables false
set_option linter.unusedSimpArgs false
open Go.Proofs.YtiipailmldbpbaaGreatDoorS
structure RdW (w w' : World) (bt : Nat) (pc sc ac rc tc : Array Value) (v0 v1 : Value) (xs : List ByteArray) (bs : List Bool) : Prop where
  d : DoW w w' pc sc ac rc v0 v1 xs bs
  t : w'.heap[bt]? = some (.cells tc 29 (0, 0))
  n : w.heap.size + 1 + 1 + 1 < bt
theorem RdW.below {w w' w2 : World} {bt : Nat} {pc sc ac rc tc : Array Value} {v0 v1 : Value} {xs : List ByteArray} {bs : List Bool} (h : RdW w w' bt pc sc ac rc tc v0 v1 xs bs) (hb : Below w'.heap.size w' w2) : RdW w w2 bt pc sc ac rc tc v0 v1 xs bs := ⟨h.d.below hb, blk_below h.t hb, h.n⟩
theorem RdW.putT {w w' w2 : World} {bt : Nat} {pc sc ac rc tc tc' : Array Value} {v0 v1 : Value} {xs : List ByteArray} {bs : List Bool} (h : RdW w w' bt pc sc ac rc tc v0 v1 xs bs) (hf : w2.heap[bt]? = some (.cells tc' 29 (0, 0)) ∧ (∀ k, k ≠ bt → w2.heap[k]? = w'.heap[k]?) ∧ ∀ B w0, Below B w0 w' → B ≤ bt → Below B w0 w2) : RdW w w2 bt pc sc ac rc tc' v0 v1 xs bs :=
  have hn := h.n
  ⟨⟨(hf.2.1 _ (by omega)).trans h.d.p, (hf.2.1 _ (by omega)).trans h.d.s, (hf.2.1 _ (by omega)).trans h.d.a, (hf.2.1 _ (by omega)).trans h.d.r, R_of_heap h.d.x h.t (by decide) hf.2.1, R_of_heap h.d.b h.t (by decide) hf.2.1, hf.2.2 _ _ h.d.bl (by omega)⟩, hf.1, hn⟩
theorem RdW.putR {w w' w2 : World} {bt : Nat} {pc sc ac rc rc' tc : Array Value} {v0 v1 : Value} {xs : List ByteArray} {bs : List Bool} (h : RdW w w' bt pc sc ac rc tc v0 v1 xs bs) (hf : w2.heap[w.heap.size + 1 + 1 + 1]? = some (.cells rc' 29 (0, 0)) ∧ (∀ k, k ≠ w.heap.size + 1 + 1 + 1 → w2.heap[k]? = w'.heap[k]?) ∧ ∀ B w0, Below B w0 w' → B ≤ w.heap.size + 1 + 1 + 1 → Below B w0 w2) : RdW w w2 bt pc sc ac rc' tc v0 v1 xs bs :=
  have hn := h.n
  ⟨h.d.putR hf, (hf.2.1 _ (by omega)).trans h.t, hn⟩
theorem RdW.setX {w w' : World} {bt : Nat} {pc sc ac rc tc : Array Value} {g0 g1 k0 k1 : Nat} {xs : List ByteArray} {bs : List Bool} (h : RdW w w' bt pc sc ac rc tc (.slice (some ⟨g0, 0, none⟩) xs.length k0) (.slice (some ⟨g1, 0, none⟩) bs.length k1) xs bs) (i : Int) (x : ByteArray) : RdW w (w'.setCell ⟨g0, i.toNat, none⟩ (.string x)) bt pc sc ac rc tc (.slice (some ⟨g0, 0, none⟩) xs.length k0) (.slice (some ⟨g1, 0, none⟩) bs.length k1) (xs.set i.toNat x) bs := by
  obtain ⟨cs, hc⟩ := Kd.R_typed h.d.x g0 rfl
  have hk : ∀ k, k ≠ g0 → (w'.setCell ⟨g0, i.toNat, none⟩ (.string x)).heap[k]? = w'.heap[k]? := fun k hk => Below.heap_setCell w' _ _ k hk
  have hne : bt ≠ g0 := fun e => by have := Kd.R_ne h.d.x h.t (by decide); simp [Value.ownBlock, e] at this
  exact ⟨h.d.written (Kd.R_put h.d.x i x).1 (R_of_heap h.d.b hc (by decide) hk) (fun k h0 _ => hk k h0) (fun B w0 hb h0 _ => hb.setCell h0 _), (hk _ hne).trans h.t, h.n⟩
theorem RdW.setB {w w' : World} {bt : Nat} {pc sc ac rc tc : Array Value} {g0 g1 k0 k1 : Nat} {xs : List ByteArray} {bs : List Bool} {n : Nat} (h : RdW w w' bt pc sc ac rc tc (.slice (some ⟨g0, 0, none⟩) n k0) (.slice (some ⟨g1, 0, none⟩) bs.length k1) xs bs) (i : Int) (x : Bool) : RdW w (w'.setCell ⟨g1, i.toNat, none⟩ (.bool x)) bt pc sc ac rc tc (.slice (some ⟨g0, 0, none⟩) n k0) (.slice (some ⟨g1, 0, none⟩) bs.length k1) xs (bs.set i.toNat x) := by
  obtain ⟨cs, hc⟩ := Kd.R_typed h.d.b g1 rfl
  have hk : ∀ k, k ≠ g1 → (w'.setCell ⟨g1, i.toNat, none⟩ (.bool x)).heap[k]? = w'.heap[k]? := fun k hk => Below.heap_setCell w' _ _ k hk
  have hne : bt ≠ g1 := fun e => by have := Kd.R_ne h.d.b h.t (by decide); simp [Value.ownBlock, e] at this
  exact ⟨h.d.written (R_of_heap h.d.x hc (by decide) hk) (Kd.R_put h.d.b i x).1 (fun k _ h1 => hk k h1) (fun B w0 hb _ h1 => hb.setCell h1 _), (hk _ hne).trans h.t, h.n⟩
theorem RdW.drew {w w' : World} {bt : Nat} {pc sc ac rc tc : Array Value} {v0 v1 : Value} {xs : List ByteArray} {bs : List Bool} (h : RdW w w' bt pc sc ac rc tc v0 v1 xs bs) : RdW w w'.drew bt pc sc ac rc tc v0 v1 xs bs := ⟨⟨blk_drew h.d.p, blk_drew h.d.s, blk_drew h.d.a, blk_drew h.d.r, Kd.R_drew h.d.x, Kd.R_drew h.d.b, below_drew h.d.bl⟩, blk_drew h.t, h.n⟩
theorem RdW.set2 {w w' : World} {bt : Nat} {pc sc ac rc tc : Array Value} {g0 g1 k0 k1 : Nat} {xs : List ByteArray} {bs : List Bool} (h : RdW w w' bt pc sc ac rc tc (.slice (some ⟨g0, 0, none⟩) xs.length k0) (.slice (some ⟨g1, 0, none⟩) bs.length k1) xs bs) (i : Int) (x : ByteArray) (b : Bool) : RdW w ((w'.setCell ⟨g0, i.toNat, none⟩ (.string x)).setCell ⟨g1, i.toNat, none⟩ (.bool b)).drew bt pc sc ac rc tc (.slice (some ⟨g0, 0, none⟩) xs.length k0) (.slice (some ⟨g1, 0, none⟩) bs.length k1) (xs.set i.toNat x) (bs.set i.toNat b) :=
  ((h.setX i x).setB i b).drew
theorem RdW.spotX {w w' : World} {bt : Nat} {pc sc ac rc tc : Array Value} {g0 k0 : Nat} {v1 : Value} {xs : List ByteArray} {bs : List Bool} (h : RdW w w' bt pc sc ac rc tc (.slice (some ⟨g0, 0, none⟩) xs.length k0) v1 xs bs) (i : Int) (h0 : 0 ≤ i) (h1 : i < xs.length) : w'.drew.cell? ⟨g0, i.toNat, none⟩ = some (.string (rdOf ByteArray.empty xs i)) ∧ w'.drew.frozen? ⟨g0, i.toNat, none⟩ = false := by
  obtain ⟨c0, hc0⟩ := Kd.R_typed h.d.x g0 rfl
  obtain ⟨a0, e0, z0⟩ := Kd.at_string (Kd.R_reads' h.d.x).2.2 i h0 h1
  cases e0
  rw [add_plain] at z0
  exact ⟨z0, blk_frozen (blk_drew hc0) i.toNat⟩
theorem RdW.spotB {w w' : World} {bt : Nat} {pc sc ac rc tc : Array Value} {g1 k1 : Nat} {v0 : Value} {xs : List ByteArray} {bs : List Bool} (h : RdW w w' bt pc sc ac rc tc v0 (.slice (some ⟨g1, 0, none⟩) bs.length k1) xs bs) (i : Int) (h0 : 0 ≤ i) (h1 : i < bs.length) : w'.drew.cell? ⟨g1, i.toNat, none⟩ = some (.bool (rdOf false bs i)) ∧ w'.drew.frozen? ⟨g1, i.toNat, none⟩ = false := by
  obtain ⟨c0, hc0⟩ := Kd.R_typed h.d.b g1 rfl
  obtain ⟨a0, e0, z0⟩ := Kd.at_bool (Kd.R_reads' h.d.b).2.2 i h0 h1
  cases e0
  rw [add_plain] at z0
  exact ⟨z0, blk_frozen (blk_drew hc0) i.toNat⟩
theorem RdW.setX2 {w w' : World} {bt : Nat} {pc sc ac rc tc : Array Value} {g0 g1 k0 k1 n m : Nat} {xs : List ByteArray} {bs : List Bool} (h : RdW w w' bt pc sc ac rc tc (.slice (some ⟨g0, 0, none⟩) n k0) (.slice (some ⟨g1, 0, none⟩) m k1) xs bs) (hn : xs.length = n) (hm : bs.length = m) (i : Int) (x : ByteArray) : RdW w (w'.setCell ⟨g0, i.toNat, none⟩ (.string x)) bt pc sc ac rc tc (.slice (some ⟨g0, 0, none⟩) n k0) (.slice (some ⟨g1, 0, none⟩) m k1) (xs.set i.toNat x) bs := by
  subst hn
  subst hm
  exact h.setX i x
theorem RdW.setB2 {w w' : World} {bt : Nat} {pc sc ac rc tc : Array Value} {g0 g1 k0 k1 n m : Nat} {xs : List ByteArray} {bs : List Bool} (h : RdW w w' bt pc sc ac rc tc (.slice (some ⟨g0, 0, none⟩) n k0) (.slice (some ⟨g1, 0, none⟩) m k1) xs bs) (hm : bs.length = m) (i : Int) (x : Bool) : RdW w (w'.setCell ⟨g1, i.toNat, none⟩ (.bool x)) bt pc sc ac rc tc (.slice (some ⟨g0, 0, none⟩) n k0) (.slice (some ⟨g1, 0, none⟩) m k1) xs (bs.set i.toNat x) := by
  subst hm
  exact h.setB i x
theorem RdW.spotX2 {w w' : World} {bt : Nat} {pc sc ac rc tc : Array Value} {g0 k0 n : Nat} {v1 : Value} {xs : List ByteArray} {bs : List Bool} (h : RdW w w' bt pc sc ac rc tc (.slice (some ⟨g0, 0, none⟩) n k0) v1 xs bs) (hn : xs.length = n) (i : Int) (h0 : 0 ≤ i) (h1 : i < n) : w'.cell? ⟨g0, i.toNat, none⟩ = some (.string (rdOf ByteArray.empty xs i)) ∧ w'.frozen? ⟨g0, i.toNat, none⟩ = false := by
  subst hn
  exact h.spotX i h0 h1
theorem RdW.spotB2 {w w' : World} {bt : Nat} {pc sc ac rc tc : Array Value} {g1 k1 n : Nat} {v0 : Value} {xs : List ByteArray} {bs : List Bool} (h : RdW w w' bt pc sc ac rc tc v0 (.slice (some ⟨g1, 0, none⟩) n k1) xs bs) (hn : bs.length = n) (i : Int) (h0 : 0 ≤ i) (h1 : i < n) : w'.cell? ⟨g1, i.toNat, none⟩ = some (.bool (rdOf false bs i)) ∧ w'.frozen? ⟨g1, i.toNat, none⟩ = false := by
  subst hn
  exact h.spotB i h0 h1
def wiped {α : Type} (a : α) (l : List α) (i : Nat) : List α := List.replicate i a ++ l.drop i
theorem wiped_len {α : Type} (a : α) (l : List α) {i : Nat} (hi : i ≤ l.length) : (wiped a l i).length = l.length := by simp [wiped]; omega
theorem wiped_set {α : Type} (a : α) (l : List α) {i : Nat} (hi : i < l.length) : (wiped a l i).set i a = wiped a l (i + 1) := by
  unfold wiped
  rw [List.set_append_right _ _ (by simp), List.length_replicate, Nat.sub_self, List.drop_eq_getElem_cons hi, List.set_cons_zero, List.replicate_succ', List.append_assoc]
  rfl
theorem wiped_all {α : Type} (a : α) (l : List α) : wiped a l l.length = List.replicate l.length a := by simp [wiped]
variable {title : ByteArray} {H W : Int} {A2 : Option Addr} {c2 : Nat} {bl : List Bool} {A3 : Option Addr} {c3 : Nat} {ri : List Bool} {A4 : Option Addr} {c4 : Nat} {be : List Bool} {A5 : Option Addr} {c5 : Nat} {cells : List ByteArray} {A6 : Option Addr} {c6 : Nat} {clues : List ByteArray} {A7 : Option Addr} {c7 : Nat} {sc : List ByteArray} {A8 : Option Addr} {c8 : Nat} {ss : List Bool} {at_ : Int} {dn : Bool}
set_option maxHeartbeats 8000000 in
set_option maxRecDepth 1000000 in
theorem rdo_wrong {kind cell : Int} {text : ByteArray} {w : World} (hP : PuzR A2 c2 bl A3 c3 ri A4 c4 be A5 c5 cells A6 c6 clues w) (hS : ShtR A7 c7 sc A8 c8 ss w) (hz : PuzS title cells clues) (hzs : Small sc) (hne : scheck title H W bl ri be cells clues sc ss at_ ≠ 0) :
    Calls Tryz.prog 8 #[.agg #[.string title, .int .i64 H, .int .i64 W, .slice A2 bl.length c2, .slice A3 ri.length c3, .slice A4 be.length c4, .slice A5 cells.length c5, .slice A6 clues.length c6], .agg #[.slice A7 sc.length c7, .slice A8 ss.length c8, .int .i64 at_, .bool dn], .agg #[.int .i64 kind, .int .i64 cell, .string text]] w (DoPost w (doErr (scheck title H W bl ri be cells clues sc ss at_))) := by
  obtain ⟨er, her⟩ : ∃ er, scheck title H W bl ri be cells clues sc ss at_ = er := ⟨_, rfl⟩
  have hck := Lib.hid her
  rw [her] at hne ⊢
  have tne : (er != 0) = true := bne_iff_ne.2 hne
  clear her hne
  have hx := box4 w (.cells #[.string title, .int .i64 H, .int .i64 W, .slice A2 bl.length c2, .slice A3 ri.length c3, .slice A4 be.length c4, .slice A5 cells.length c5, .slice A6 clues.length c6] 27) (.cells #[.slice A7 sc.length c7, .slice A8 ss.length c8, .int .i64 at_, .bool dn] 29) (.cells #[.int .i64 kind, .int .i64 cell, .string text] 31) (.cells #[.slice none 0 0, .slice none 0 0, .int .i64 0, .bool false] 29)
  replace hx := Lib.hid hx
  have hu30 := Tryz.underlying29
  go_enter Tryz.func8, Tryz.ntmps8
  go_wp2_with (first | (go_at_call 21; go_must (refine (rebusref23_Check.calls (hP.below hx.out.2.2.2.2) (hS.below hx.out.2.2.2.2) hz hzs).mono ?_; rintro e w3 ⟨rfl, hb3⟩; rw [hck.out]; have D3 := Lib.hid (DoW.below (w := w) (⟨hx.out.1, hx.out.2.1, hx.out.2.2.1, hx.out.2.2.2.1, Kd.R_nil _ _ _ _ _, Kd.R_nil _ _ _ _ _, hx.out.2.2.2.2⟩ : DoW w _ _ _ _ _ (.slice none 0 0) (.slice none 0 0) [] []) hb3); clear hb3; have q := doFacts D3.out)) | ((with_reducible refine gate_store (t := 29) (p := 6) (v := .tmp 20) rfl ?_); go_must (refine store_event (w1 := put4 w3 (w.heap.size + 1 + 1 + 1) (.slice none 0 0) (.slice none 0 0) (.int .i64 0) (.bool false)) (by rfl) (by rfl) (by rfl) ?hr ?_; (case hr => first | (go_simp; done) | (go_simp; rfl)); intro w5 hw5; have Fw5 := put4_facts D3.out.r (.slice none 0 0) (.slice none 0 0) (.int .i64 0) (.bool false); rw [← hw5] at Fw5; have D5 := Lib.hid (D3.out.putR Fw5); clear hw5 Fw5 q)))
  refine bodyPost_ret (results_ct rfl _ _ (w.heap.size + 1 + 1 + 1) 29 #[.slice none 0 0, .slice none 0 0, .int .i64 0, .bool false] (0, 0) _ rfl D5.out.r Tryz.underlying29 rfl (by kernel_rfl)) rfl ?_
  exact DoPost.err D5.out.bl
set_option maxHeartbeats 8000000 in
set_option maxRecDepth 1000000 in
theorem rdo_bad {kind cell : Int} {text : ByteArray} {w : World} (hP : PuzR A2 c2 bl A3 c3 ri A4 c4 be A5 c5 cells A6 c6 clues w) (hS : ShtR A7 c7 sc A8 c8 ss w) (hz : PuzS title cells clues) (hzs : Small sc) (h0 : scheck title H W bl ri be cells clues sc ss at_ = 0) (hb : badAct kind cell text = true) :
    Calls Tryz.prog 8 #[.agg #[.string title, .int .i64 H, .int .i64 W, .slice A2 bl.length c2, .slice A3 ri.length c3, .slice A4 be.length c4, .slice A5 cells.length c5, .slice A6 clues.length c6], .agg #[.slice A7 sc.length c7, .slice A8 ss.length c8, .int .i64 at_, .bool dn], .agg #[.int .i64 kind, .int .i64 cell, .string text]] w (DoPost w (doErr 231)) := by
  have hck := h0
  obtain ⟨hgc, hl0, hl1, hl2, ha0, ha1, hpos, h256⟩ := scheck_grid h0
  replace hck := Lib.hid hck
  replace hgc := Lib.hid hgc
  replace hl0 := Lib.hid hl0
  replace hl1 := Lib.hid hl1
  replace hl2 := Lib.hid hl2
  clear h0
  have hx := box4 w (.cells #[.string title, .int .i64 H, .int .i64 W, .slice A2 bl.length c2, .slice A3 ri.length c3, .slice A4 be.length c4, .slice A5 cells.length c5, .slice A6 clues.length c6] 27) (.cells #[.slice A7 sc.length c7, .slice A8 ss.length c8, .int .i64 at_, .bool dn] 29) (.cells #[.int .i64 kind, .int .i64 cell, .string text] 31) (.cells #[.slice none 0 0, .slice none 0 0, .int .i64 0, .bool false] 29)
  replace hx := Lib.hid hx
  have hu30 := Tryz.underlying29
  have hu36 := Tryz.underlying31
  have hu27 := Tryz.underlying27
  have hu24 := Tryz.underlying24
  have key : (kind < 1) ∨ (1 ≤ kind ∧ 7 < kind) ∨ (1 ≤ kind ∧ kind ≤ 7 ∧ kind = 1 ∧ cell ≠ 0) ∨ (1 ≤ kind ∧ kind ≤ 7 ∧ kind ≠ 1 ∧ ¬ text.toList = []) ∨ (1 ≤ kind ∧ kind ≤ 7 ∧ kind ≠ 1 ∧ text.toList = [] ∧ kind ≠ 3 ∧ cell ≠ 0) := by
    by_cases k1 : kind < 1
    · exact .inl k1
    · by_cases k2 : 7 < kind
      · exact .inr (.inl ⟨by omega, k2⟩)
      · by_cases k3 : kind = 1
        · refine .inr (.inr (.inl ⟨by omega, by omega, k3, fun hc => ?_⟩))
          subst k3
          simp [badAct, hc] at hb
        · by_cases k4 : text.toList = []
          · refine .inr (.inr (.inr (.inr ⟨by omega, by omega, k3, k4, ?_, ?_⟩)))
            · intro k5; subst k5; simp [badAct, k4] at hb
            · intro k5; subst k5; simp [badAct, k4] at hb; omega
          · exact .inr (.inr (.inr (.inl ⟨by omega, by omega, k3, k4⟩)))
  clear hb
  rcases key with k1 | ⟨k0, k1⟩ | ⟨k0, k1, rfl, k2⟩ | ⟨k0, k1, k2, k3⟩ | ⟨k0, k1, k2, k3, k4, k5⟩
  · have e1 : decide (kind < 1) = true := decide_eq_true k1
    go_enter Tryz.func8, Tryz.ntmps8
    go_wp2_with (first | (go_at_call 21; go_must (refine (rebusref23_Check.calls (hP.below hx.out.2.2.2.2) (hS.below hx.out.2.2.2.2) hz hzs).mono ?_; rintro e w3 ⟨rfl, hb3⟩; rw [hck.out]; have D3 := Lib.hid (DoW.below (w := w) (⟨hx.out.1, hx.out.2.1, hx.out.2.2.1, hx.out.2.2.2.1, Kd.R_nil _ _ _ _ _, Kd.R_nil _ _ _ _ _, hx.out.2.2.2.2⟩ : DoW w _ _ _ _ _ (.slice none 0 0) (.slice none 0 0) [] []) hb3); clear hb3; have q := doFacts D3.out)) | ((with_reducible refine gate_store (t := 29) (p := 6) (v := .tmp 50) rfl ?_); go_must (refine store_event (w1 := put4 w3 (w.heap.size + 1 + 1 + 1) (.slice none 0 0) (.slice none 0 0) (.int .i64 0) (.bool false)) (by rfl) (by rfl) (by rfl) ?hr ?_; (case hr => first | (go_simp; done) | (go_simp; rfl)); intro w5 hw5; have Fw5 := put4_facts D3.out.r (.slice none 0 0) (.slice none 0 0) (.int .i64 0) (.bool false); rw [← hw5] at Fw5; have D5 := Lib.hid (D3.out.putR Fw5); clear hw5 Fw5 q)))
    refine bodyPost_ret (results_ct rfl _ _ (w.heap.size + 1 + 1 + 1) 29 #[.slice none 0 0, .slice none 0 0, .int .i64 0, .bool false] (0, 0) _ rfl D5.out.r Tryz.underlying29 rfl (by kernel_rfl)) rfl ?_
    exact DoPost.err D5.out.bl
  · have e1 : decide (kind < 1) = false := decide_eq_false (by omega)
    have e2 : decide (7 < kind) = true := decide_eq_true k1
    go_enter Tryz.func8, Tryz.ntmps8
    go_wp2_with (first | (go_at_call 21; go_must (refine (rebusref23_Check.calls (hP.below hx.out.2.2.2.2) (hS.below hx.out.2.2.2.2) hz hzs).mono ?_; rintro e w3 ⟨rfl, hb3⟩; rw [hck.out]; have D3 := Lib.hid (DoW.below (w := w) (⟨hx.out.1, hx.out.2.1, hx.out.2.2.1, hx.out.2.2.2.1, Kd.R_nil _ _ _ _ _, Kd.R_nil _ _ _ _ _, hx.out.2.2.2.2⟩ : DoW w _ _ _ _ _ (.slice none 0 0) (.slice none 0 0) [] []) hb3); clear hb3; have q := doFacts D3.out)) | ((with_reducible refine gate_store (t := 29) (p := 6) (v := .tmp 50) rfl ?_); go_must (refine store_event (w1 := put4 w3 (w.heap.size + 1 + 1 + 1) (.slice none 0 0) (.slice none 0 0) (.int .i64 0) (.bool false)) (by rfl) (by rfl) (by rfl) ?hr ?_; (case hr => first | (go_simp; done) | (go_simp; rfl)); intro w5 hw5; have Fw5 := put4_facts D3.out.r (.slice none 0 0) (.slice none 0 0) (.int .i64 0) (.bool false); rw [← hw5] at Fw5; have D5 := Lib.hid (D3.out.putR Fw5); clear hw5 Fw5 q)))
    refine bodyPost_ret (results_ct rfl _ _ (w.heap.size + 1 + 1 + 1) 29 #[.slice none 0 0, .slice none 0 0, .int .i64 0, .bool false] (0, 0) _ rfl D5.out.r Tryz.underlying29 rfl (by kernel_rfl)) rfl ?_
    exact DoPost.err D5.out.bl
  · have e6 : (cell != 0) = true := bne_iff_ne.2 k2
    clear k2
    go_enter Tryz.func8, Tryz.ntmps8
    go_wp2_with (first | (go_at_call 21; go_must (refine (rebusref23_Check.calls (hP.below hx.out.2.2.2.2) (hS.below hx.out.2.2.2.2) hz hzs).mono ?_; rintro e w3 ⟨rfl, hb3⟩; rw [hck.out]; have D3 := Lib.hid (DoW.below (w := w) (⟨hx.out.1, hx.out.2.1, hx.out.2.2.1, hx.out.2.2.2.1, Kd.R_nil _ _ _ _ _, Kd.R_nil _ _ _ _ _, hx.out.2.2.2.2⟩ : DoW w _ _ _ _ _ (.slice none 0 0) (.slice none 0 0) [] []) hb3); clear hb3; have q := doFacts D3.out)) | ((with_reducible refine gate_store (t := 29) (p := 6) (v := .tmp 50) rfl ?_); go_must (refine store_event (w1 := put4 w3 (w.heap.size + 1 + 1 + 1) (.slice none 0 0) (.slice none 0 0) (.int .i64 0) (.bool false)) (by rfl) (by rfl) (by rfl) ?hr ?_; (case hr => first | (go_simp; done) | (go_simp; rfl)); intro w5 hw5; have Fw5 := put4_facts D3.out.r (.slice none 0 0) (.slice none 0 0) (.int .i64 0) (.bool false); rw [← hw5] at Fw5; have D5 := Lib.hid (D3.out.putR Fw5); clear hw5 Fw5 q)))
    refine bodyPost_ret (results_ct rfl _ _ (w.heap.size + 1 + 1 + 1) 29 #[.slice none 0 0, .slice none 0 0, .int .i64 0, .bool false] (0, 0) _ rfl D5.out.r Tryz.underlying29 rfl (by kernel_rfl)) rfl ?_
    exact DoPost.err D5.out.bl
  · have e1 : decide (kind < 1) = false := decide_eq_false (by omega)
    have e2 : decide (7 < kind) = false := decide_eq_false (by omega)
    have e3 : (kind != 1) = true := bne_iff_ne.2 k2
    have e4 : text.toList.isEmpty = false := toList_nil.2 k3
    clear k2
    go_enter Tryz.func8, Tryz.ntmps8
    go_wp2_with (first | (go_at_call 21; go_must (refine (rebusref23_Check.calls (hP.below hx.out.2.2.2.2) (hS.below hx.out.2.2.2.2) hz hzs).mono ?_; rintro e w3 ⟨rfl, hb3⟩; rw [hck.out]; have D3 := Lib.hid (DoW.below (w := w) (⟨hx.out.1, hx.out.2.1, hx.out.2.2.1, hx.out.2.2.2.1, Kd.R_nil _ _ _ _ _, Kd.R_nil _ _ _ _ _, hx.out.2.2.2.2⟩ : DoW w _ _ _ _ _ (.slice none 0 0) (.slice none 0 0) [] []) hb3); clear hb3; have q := doFacts D3.out)) | ((with_reducible refine gate_store (t := 29) (p := 6) (v := .tmp 50) rfl ?_); go_must (refine store_event (w1 := put4 w3 (w.heap.size + 1 + 1 + 1) (.slice none 0 0) (.slice none 0 0) (.int .i64 0) (.bool false)) (by rfl) (by rfl) (by rfl) ?hr ?_; (case hr => first | (go_simp; done) | (go_simp; rfl)); intro w5 hw5; have Fw5 := put4_facts D3.out.r (.slice none 0 0) (.slice none 0 0) (.int .i64 0) (.bool false); rw [← hw5] at Fw5; have D5 := Lib.hid (D3.out.putR Fw5); clear hw5 Fw5 q)))
    refine bodyPost_ret (results_ct rfl _ _ (w.heap.size + 1 + 1 + 1) 29 #[.slice none 0 0, .slice none 0 0, .int .i64 0, .bool false] (0, 0) _ rfl D5.out.r Tryz.underlying29 rfl (by kernel_rfl)) rfl ?_
    exact DoPost.err D5.out.bl
  · have e1 : decide (kind < 1) = false := decide_eq_false (by omega)
    have e2 : decide (7 < kind) = false := decide_eq_false (by omega)
    have e3 : (kind != 1) = true := bne_iff_ne.2 k2
    have e4 : text.toList.isEmpty = true := by rw [k3]; rfl
    have e5 : (kind != 3) = true := bne_iff_ne.2 k4
    have e6 : (cell != 0) = true := bne_iff_ne.2 k5
    clear k2 k4 k5
    go_enter Tryz.func8, Tryz.ntmps8
    go_wp2_with (first | (go_at_call 21; go_must (refine (rebusref23_Check.calls (hP.below hx.out.2.2.2.2) (hS.below hx.out.2.2.2.2) hz hzs).mono ?_; rintro e w3 ⟨rfl, hb3⟩; rw [hck.out]; have D3 := Lib.hid (DoW.below (w := w) (⟨hx.out.1, hx.out.2.1, hx.out.2.2.1, hx.out.2.2.2.1, Kd.R_nil _ _ _ _ _, Kd.R_nil _ _ _ _ _, hx.out.2.2.2.2⟩ : DoW w _ _ _ _ _ (.slice none 0 0) (.slice none 0 0) [] []) hb3); clear hb3; have q := doFacts D3.out)) | ((with_reducible refine gate_store (t := 29) (p := 6) (v := .tmp 50) rfl ?_); go_must (refine store_event (w1 := put4 w3 (w.heap.size + 1 + 1 + 1) (.slice none 0 0) (.slice none 0 0) (.int .i64 0) (.bool false)) (by rfl) (by rfl) (by rfl) ?hr ?_; (case hr => first | (go_simp; done) | (go_simp; rfl)); intro w5 hw5; have Fw5 := put4_facts D3.out.r (.slice none 0 0) (.slice none 0 0) (.int .i64 0) (.bool false); rw [← hw5] at Fw5; have D5 := Lib.hid (D3.out.putR Fw5); clear hw5 Fw5 q)))
    refine bodyPost_ret (results_ct rfl _ _ (w.heap.size + 1 + 1 + 1) 29 #[.slice none 0 0, .slice none 0 0, .int .i64 0, .bool false] (0, 0) _ rfl D5.out.r Tryz.underlying29 rfl (by kernel_rfl)) rfl ?_
    exact DoPost.err D5.out.bl
set_option maxHeartbeats 8000000 in
set_option maxRecDepth 1000000 in
theorem rdo_swap {text : ByteArray} {w : World} (hP : PuzR A2 c2 bl A3 c3 ri A4 c4 be A5 c5 cells A6 c6 clues w) (hS : ShtR A7 c7 sc A8 c8 ss w) (hz : PuzS title cells clues) (hzs : Small sc) (h0 : scheck title H W bl ri be cells clues sc ss at_ = 0) (htl : text.toList = []) :
    Calls Tryz.prog 8 #[.agg #[.string title, .int .i64 H, .int .i64 W, .slice A2 bl.length c2, .slice A3 ri.length c3, .slice A4 be.length c4, .slice A5 cells.length c5, .slice A6 clues.length c6], .agg #[.slice A7 sc.length c7, .slice A8 ss.length c8, .int .i64 at_, .bool dn], .agg #[.int .i64 4, .int .i64 0, .string text]] w (DoPost w (sc, ss, at_, !dn, 0)) := by
  have hck := h0
  obtain ⟨hgc, hl0, hl1, hl2, ha0, ha1, hpos, h256⟩ := scheck_grid h0
  replace hck := Lib.hid hck
  replace hgc := Lib.hid hgc
  replace hl0 := Lib.hid hl0
  replace hl1 := Lib.hid hl1
  replace hl2 := Lib.hid hl2
  clear h0
  have hx := box4 w (.cells #[.string title, .int .i64 H, .int .i64 W, .slice A2 bl.length c2, .slice A3 ri.length c3, .slice A4 be.length c4, .slice A5 cells.length c5, .slice A6 clues.length c6] 27) (.cells #[.slice A7 sc.length c7, .slice A8 ss.length c8, .int .i64 at_, .bool dn] 29) (.cells #[.int .i64 4, .int .i64 0, .string text] 31) (.cells #[.slice none 0 0, .slice none 0 0, .int .i64 0, .bool false] 29)
  replace hx := Lib.hid hx
  have e4 : text.toList.isEmpty = true := by rw [htl]; rfl
  replace htl := Lib.hid htl
  have hu30 := Tryz.underlying29
  have hu36 := Tryz.underlying31
  have hu27 := Tryz.underlying27
  have hu24 := Tryz.underlying24
  go_enter Tryz.func8, Tryz.ntmps8
  go_wp2_with (first | (go_at_call 21; go_must (refine (rebusref23_Check.calls (hP.below hx.out.2.2.2.2) (hS.below hx.out.2.2.2.2) hz hzs).mono ?_; rintro e w3 ⟨rfl, hb3⟩; rw [hck.out]; have D3 := Lib.hid (DoW.below (w := w) (⟨hx.out.1, hx.out.2.1, hx.out.2.2.1, hx.out.2.2.2.1, Kd.R_nil _ _ _ _ _, Kd.R_nil _ _ _ _ _, hx.out.2.2.2.2⟩ : DoW w _ _ _ _ _ (.slice none 0 0) (.slice none 0 0) [] []) hb3); clear hb3; have q := doFacts D3.out)) | (go_at_call 5; go_must (refine (rebusref23_Copied.calls (hS.below D3.out.bl) (by have := hl0.out; omega) (by have := hl1.out; omega)).mono ?_; rintro e w4 ⟨v0, v1, rfl, hr0, hr1, hb4⟩; obtain ⟨g0, k0, rfl⟩ := R_form_n hr0 (n := sc.length) rfl (by have := hl0.out; omega); obtain ⟨g1, k1, rfl⟩ := R_form_n hr1 (n := ss.length) rfl (by have := hl1.out; omega); have D4a := DoW.below D3.out hb4; have D4 := Lib.hid (⟨D4a.p, D4a.s, D4a.a, D4a.r, Kd.R_lower hr0 D3.out.bl.size, Kd.R_lower hr1 D3.out.bl.size, D4a.bl⟩ : DoW w w4 _ _ _ _ (.slice (some ⟨g0, 0, none⟩) sc.length k0) (.slice (some ⟨g1, 0, none⟩) ss.length k1) sc ss); clear q D4a hr0 hr1 hb4; have q := doFacts D4.out)) | ((with_reducible refine gate_dst (N := 9) rfl ?_); go_must (refine event_at (v := .pointer (some ⟨w4.heap.size, 0, none⟩)) (w1 := w4.alloc (.cells #[.slice none 0 0, .slice none 0 0, .int .i64 0, .bool false] 29)) (by rfl) ?hr ?_; (case hr => first | (go_simp; done) | (go_simp; rfl)); have T5 := Lib.hid (RdW.mk (⟨blk_alloc D4.out.p _, blk_alloc D4.out.s _, blk_alloc D4.out.a _, blk_alloc D4.out.r _, Kd.R_alloc D4.out.x _, Kd.R_alloc D4.out.b _, below_alloc D4.out.bl _⟩ : DoW w (w4.alloc (.cells #[.slice none 0 0, .slice none 0 0, .int .i64 0, .bool false] 29)) _ _ _ _ (.slice (some ⟨g0, 0, none⟩) sc.length k0) (.slice (some ⟨g1, 0, none⟩) ss.length k1) sc ss) (blk_new w4 _) (blk_lt D4.out.r)); generalize w4.alloc (.cells #[.slice none 0 0, .slice none 0 0, .int .i64 0, .bool false] 29) = w5 at T5 ⊢; generalize w4.heap.size = bt at T5 ⊢; clear q D4; have q := And.intro (doFacts T5.out.d) (And.intro (cells4 T5.out.t) (frozen4 T5.out.t)))) | ((with_reducible refine gate_store (t := 29) (p := 9) (v := .tmp 52) rfl ?_); go_must (refine store_event (w1 := put4 w5 bt (.slice (some ⟨g0, 0, none⟩) sc.length k0) (.slice (some ⟨g1, 0, none⟩) ss.length k1) (.int .i64 at_) (.bool dn)) (by rfl) (by rfl) (by rfl) ?hr ?_; (case hr => first | (go_simp; done) | (go_simp; rfl)); intro w6 hw6; have Fw6 := put4_facts T5.out.t (.slice (some ⟨g0, 0, none⟩) sc.length k0) (.slice (some ⟨g1, 0, none⟩) ss.length k1) (.int .i64 at_) (.bool dn); rw [← hw6] at Fw6; have T6 := Lib.hid (T5.out.putT Fw6); clear hw6 Fw6 q; have q := And.intro (doFacts T6.out.d) (And.intro (cells4 T6.out.t) (frozen4 T6.out.t)))) | ((with_reducible refine gate_store (t := 4) (p := 139) (v := .tmp 138) rfl ?_); go_must (refine store_event (w1 := w6.setCell ⟨bt, 3, none⟩ (.bool (!dn))) (by rfl) (by rfl) (by rfl) ?hr ?_; (case hr => first | (go_simp; done) | (go_simp; rfl)); intro w7 hw7; have Fw7 := one_facts (cs' := #[.slice (some ⟨g0, 0, none⟩) sc.length k0, .slice (some ⟨g1, 0, none⟩) ss.length k1, .int .i64 at_, .bool (!dn)]) (i := 3) T6.out.t (.bool (!dn)) rfl; rw [← hw7] at Fw7; have T7 := Lib.hid (T6.out.putT Fw7); clear hw7 Fw7 q; have q := And.intro (doFacts T7.out.d) (And.intro (cells4 T7.out.t) (frozen4 T7.out.t)))) | ((with_reducible refine gate_store (t := 29) (p := 6) (v := .tmp 205) rfl ?_); go_must (refine store_event (w1 := put4 w7 (w.heap.size + 1 + 1 + 1) (.slice (some ⟨g0, 0, none⟩) sc.length k0) (.slice (some ⟨g1, 0, none⟩) ss.length k1) (.int .i64 at_) (.bool (!dn))) (by rfl) (by rfl) (by rfl) ?hr ?_; (case hr => first | (go_simp; done) | (go_simp; rfl)); intro w9 hw9; have Fw9 := put4_facts T7.out.d.r (.slice (some ⟨g0, 0, none⟩) sc.length k0) (.slice (some ⟨g1, 0, none⟩) ss.length k1) (.int .i64 at_) (.bool (!dn)); rw [← hw9] at Fw9; have T9 := Lib.hid (T7.out.putR Fw9); clear hw9 Fw9 q)))
  refine bodyPost_ret (results_ct rfl _ _ (w.heap.size + 1 + 1 + 1) 29 #[.slice (some ⟨g0, 0, none⟩) sc.length k0, .slice (some ⟨g1, 0, none⟩) ss.length k1, .int .i64 at_, .bool (!dn)] (0, 0) _ rfl T9.out.d.r Tryz.underlying29 rfl (by kernel_rfl)) rfl ?_
  exact ⟨_, _, rfl, T9.out.d.x, T9.out.d.b, T9.out.d.bl⟩
set_option maxHeartbeats 8000000 in
set_option maxRecDepth 1000000 in
theorem rdo_move_no {cell : Int} {text : ByteArray} {w : World} (hP : PuzR A2 c2 bl A3 c3 ri A4 c4 be A5 c5 cells A6 c6 clues w) (hS : ShtR A7 c7 sc A8 c8 ss w) (hz : PuzS title cells clues) (hzs : Small sc) (h0 : scheck title H W bl ri be cells clues sc ss at_ = 0) (htl : text.toList = []) (ho : gopen bl cell = false) :
    Calls Tryz.prog 8 #[.agg #[.string title, .int .i64 H, .int .i64 W, .slice A2 bl.length c2, .slice A3 ri.length c3, .slice A4 be.length c4, .slice A5 cells.length c5, .slice A6 clues.length c6], .agg #[.slice A7 sc.length c7, .slice A8 ss.length c8, .int .i64 at_, .bool dn], .agg #[.int .i64 3, .int .i64 cell, .string text]] w (DoPost w (doErr 230)) := by
  have hck := h0
  obtain ⟨hgc, hl0, hl1, hl2, ha0, ha1, hpos, h256⟩ := scheck_grid h0
  replace hck := Lib.hid hck
  replace hgc := Lib.hid hgc
  replace hl0 := Lib.hid hl0
  replace hl1 := Lib.hid hl1
  replace hl2 := Lib.hid hl2
  clear h0
  have hx := box4 w (.cells #[.string title, .int .i64 H, .int .i64 W, .slice A2 bl.length c2, .slice A3 ri.length c3, .slice A4 be.length c4, .slice A5 cells.length c5, .slice A6 clues.length c6] 27) (.cells #[.slice A7 sc.length c7, .slice A8 ss.length c8, .int .i64 at_, .bool dn] 29) (.cells #[.int .i64 3, .int .i64 cell, .string text] 31) (.cells #[.slice none 0 0, .slice none 0 0, .int .i64 0, .bool false] 29)
  replace hx := Lib.hid hx
  have e4 : text.toList.isEmpty = true := by rw [htl]; rfl
  replace htl := Lib.hid htl
  have hu30 := Tryz.underlying29
  have hu36 := Tryz.underlying31
  have hu27 := Tryz.underlying27
  have hu24 := Tryz.underlying24
  have hop : (decide (gcheck H W bl ri be = 0) && gopen bl cell) = false := by rw [ho, decide_eq_true hgc.out]; rfl
  replace hop := Lib.hid hop
  clear ho
  go_enter Tryz.func8, Tryz.ntmps8
  go_wp2_with (first | (go_at_call 21; go_must (refine (rebusref23_Check.calls (hP.below hx.out.2.2.2.2) (hS.below hx.out.2.2.2.2) hz hzs).mono ?_; rintro e w3 ⟨rfl, hb3⟩; rw [hck.out]; have D3 := Lib.hid (DoW.below (w := w) (⟨hx.out.1, hx.out.2.1, hx.out.2.2.1, hx.out.2.2.2.1, Kd.R_nil _ _ _ _ _, Kd.R_nil _ _ _ _ _, hx.out.2.2.2.2⟩ : DoW w _ _ _ _ _ (.slice none 0 0) (.slice none 0 0) [] []) hb3); clear hb3; have q := doFacts D3.out)) | (go_at_call 5; go_must (refine (rebusref23_Copied.calls (hS.below D3.out.bl) (by have := hl0.out; omega) (by have := hl1.out; omega)).mono ?_; rintro e w4 ⟨v0, v1, rfl, hr0, hr1, hb4⟩; obtain ⟨g0, k0, rfl⟩ := R_form_n hr0 (n := sc.length) rfl (by have := hl0.out; omega); obtain ⟨g1, k1, rfl⟩ := R_form_n hr1 (n := ss.length) rfl (by have := hl1.out; omega); have D4a := DoW.below D3.out hb4; have D4 := Lib.hid (⟨D4a.p, D4a.s, D4a.a, D4a.r, Kd.R_lower hr0 D3.out.bl.size, Kd.R_lower hr1 D3.out.bl.size, D4a.bl⟩ : DoW w w4 _ _ _ _ (.slice (some ⟨g0, 0, none⟩) sc.length k0) (.slice (some ⟨g1, 0, none⟩) ss.length k1) sc ss); clear q D4a hr0 hr1 hb4; have q := doFacts D4.out)) | ((with_reducible refine gate_dst (N := 9) rfl ?_); go_must (refine event_at (v := .pointer (some ⟨w4.heap.size, 0, none⟩)) (w1 := w4.alloc (.cells #[.slice none 0 0, .slice none 0 0, .int .i64 0, .bool false] 29)) (by rfl) ?hr ?_; (case hr => first | (go_simp; done) | (go_simp; rfl)); have T5 := Lib.hid (RdW.mk (⟨blk_alloc D4.out.p _, blk_alloc D4.out.s _, blk_alloc D4.out.a _, blk_alloc D4.out.r _, Kd.R_alloc D4.out.x _, Kd.R_alloc D4.out.b _, below_alloc D4.out.bl _⟩ : DoW w (w4.alloc (.cells #[.slice none 0 0, .slice none 0 0, .int .i64 0, .bool false] 29)) _ _ _ _ (.slice (some ⟨g0, 0, none⟩) sc.length k0) (.slice (some ⟨g1, 0, none⟩) ss.length k1) sc ss) (blk_new w4 _) (blk_lt D4.out.r)); generalize w4.alloc (.cells #[.slice none 0 0, .slice none 0 0, .int .i64 0, .bool false] 29) = w5 at T5 ⊢; generalize w4.heap.size = bt at T5 ⊢; clear q D4; have q := And.intro (doFacts T5.out.d) (And.intro (cells4 T5.out.t) (frozen4 T5.out.t)))) | ((with_reducible refine gate_store (t := 29) (p := 9) (v := .tmp 52) rfl ?_); go_must (refine store_event (w1 := put4 w5 bt (.slice (some ⟨g0, 0, none⟩) sc.length k0) (.slice (some ⟨g1, 0, none⟩) ss.length k1) (.int .i64 at_) (.bool dn)) (by rfl) (by rfl) (by rfl) ?hr ?_; (case hr => first | (go_simp; done) | (go_simp; rfl)); intro w6 hw6; have Fw6 := put4_facts T5.out.t (.slice (some ⟨g0, 0, none⟩) sc.length k0) (.slice (some ⟨g1, 0, none⟩) ss.length k1) (.int .i64 at_) (.bool dn); rw [← hw6] at Fw6; have T6 := Lib.hid (T5.out.putT Fw6); clear hw6 Fw6 q; have q := And.intro (doFacts T6.out.d) (And.intro (cells4 T6.out.t) (frozen4 T6.out.t)))) | (go_at_call 25; go_must (refine (rebusref05_Open.calls (hP.below T6.out.d.bl).gridC).mono ?_; rintro e w7 ⟨rfl, hb⟩; rw [hop.out]; have T7 := Lib.hid (T6.out.below hb); clear hb q; have q := And.intro (doFacts T7.out.d) (And.intro (cells4 T7.out.t) (frozen4 T7.out.t)))) | ((with_reducible refine gate_store (t := 29) (p := 6) (v := .tmp 121) rfl ?_); go_must (refine store_event (w1 := put4 w7 (w.heap.size + 1 + 1 + 1) (.slice none 0 0) (.slice none 0 0) (.int .i64 0) (.bool false)) (by rfl) (by rfl) (by rfl) ?hr ?_; (case hr => first | (go_simp; done) | (go_simp; rfl)); intro w9 hw9; have Fw9 := put4_facts T7.out.d.r (.slice none 0 0) (.slice none 0 0) (.int .i64 0) (.bool false); rw [← hw9] at Fw9; have T9 := Lib.hid (T7.out.putR Fw9); clear hw9 Fw9 q)))
  refine bodyPost_ret (results_ct rfl _ _ (w.heap.size + 1 + 1 + 1) 29 #[.slice none 0 0, .slice none 0 0, .int .i64 0, .bool false] (0, 0) _ rfl T9.out.d.r Tryz.underlying29 rfl (by kernel_rfl)) rfl ?_
  exact DoPost.err T9.out.d.bl
set_option maxHeartbeats 8000000 in
set_option maxRecDepth 1000000 in
theorem rdo_move_on {cell : Int} {text : ByteArray} {w : World} (hP : PuzR A2 c2 bl A3 c3 ri A4 c4 be A5 c5 cells A6 c6 clues w) (hS : ShtR A7 c7 sc A8 c8 ss w) (hz : PuzS title cells clues) (hzs : Small sc) (h0 : scheck title H W bl ri be cells clues sc ss at_ = 0) (htl : text.toList = []) (ho : gopen bl cell = true) (hn : cell ≠ at_) :
    Calls Tryz.prog 8 #[.agg #[.string title, .int .i64 H, .int .i64 W, .slice A2 bl.length c2, .slice A3 ri.length c3, .slice A4 be.length c4, .slice A5 cells.length c5, .slice A6 clues.length c6], .agg #[.slice A7 sc.length c7, .slice A8 ss.length c8, .int .i64 at_, .bool dn], .agg #[.int .i64 3, .int .i64 cell, .string text]] w (DoPost w (sc, ss, cell, dn, 0)) := by
  have hck := h0
  obtain ⟨hgc, hl0, hl1, hl2, ha0, ha1, hpos, h256⟩ := scheck_grid h0
  replace hck := Lib.hid hck
  replace hgc := Lib.hid hgc
  replace hl0 := Lib.hid hl0
  replace hl1 := Lib.hid hl1
  replace hl2 := Lib.hid hl2
  clear h0
  have hx := box4 w (.cells #[.string title, .int .i64 H, .int .i64 W, .slice A2 bl.length c2, .slice A3 ri.length c3, .slice A4 be.length c4, .slice A5 cells.length c5, .slice A6 clues.length c6] 27) (.cells #[.slice A7 sc.length c7, .slice A8 ss.length c8, .int .i64 at_, .bool dn] 29) (.cells #[.int .i64 3, .int .i64 cell, .string text] 31) (.cells #[.slice none 0 0, .slice none 0 0, .int .i64 0, .bool false] 29)
  replace hx := Lib.hid hx
  have e4 : text.toList.isEmpty = true := by rw [htl]; rfl
  replace htl := Lib.hid htl
  have hu30 := Tryz.underlying29
  have hu36 := Tryz.underlying31
  have hu27 := Tryz.underlying27
  have hu24 := Tryz.underlying24
  have hop : (decide (gcheck H W bl ri be = 0) && gopen bl cell) = true := by rw [ho, decide_eq_true hgc.out]; rfl
  replace hop := Lib.hid hop
  clear ho
  have t6 : (cell == at_) = false := by simpa using hn
  clear hn
  go_enter Tryz.func8, Tryz.ntmps8
  go_wp2_with (first | (go_at_call 21; go_must (refine (rebusref23_Check.calls (hP.below hx.out.2.2.2.2) (hS.below hx.out.2.2.2.2) hz hzs).mono ?_; rintro e w3 ⟨rfl, hb3⟩; rw [hck.out]; have D3 := Lib.hid (DoW.below (w := w) (⟨hx.out.1, hx.out.2.1, hx.out.2.2.1, hx.out.2.2.2.1, Kd.R_nil _ _ _ _ _, Kd.R_nil _ _ _ _ _, hx.out.2.2.2.2⟩ : DoW w _ _ _ _ _ (.slice none 0 0) (.slice none 0 0) [] []) hb3); clear hb3; have q := doFacts D3.out)) | (go_at_call 5; go_must (refine (rebusref23_Copied.calls (hS.below D3.out.bl) (by have := hl0.out; omega) (by have := hl1.out; omega)).mono ?_; rintro e w4 ⟨v0, v1, rfl, hr0, hr1, hb4⟩; obtain ⟨g0, k0, rfl⟩ := R_form_n hr0 (n := sc.length) rfl (by have := hl0.out; omega); obtain ⟨g1, k1, rfl⟩ := R_form_n hr1 (n := ss.length) rfl (by have := hl1.out; omega); have D4a := DoW.below D3.out hb4; have D4 := Lib.hid (⟨D4a.p, D4a.s, D4a.a, D4a.r, Kd.R_lower hr0 D3.out.bl.size, Kd.R_lower hr1 D3.out.bl.size, D4a.bl⟩ : DoW w w4 _ _ _ _ (.slice (some ⟨g0, 0, none⟩) sc.length k0) (.slice (some ⟨g1, 0, none⟩) ss.length k1) sc ss); clear q D4a hr0 hr1 hb4; have q := doFacts D4.out)) | ((with_reducible refine gate_dst (N := 9) rfl ?_); go_must (refine event_at (v := .pointer (some ⟨w4.heap.size, 0, none⟩)) (w1 := w4.alloc (.cells #[.slice none 0 0, .slice none 0 0, .int .i64 0, .bool false] 29)) (by rfl) ?hr ?_; (case hr => first | (go_simp; done) | (go_simp; rfl)); have T5 := Lib.hid (RdW.mk (⟨blk_alloc D4.out.p _, blk_alloc D4.out.s _, blk_alloc D4.out.a _, blk_alloc D4.out.r _, Kd.R_alloc D4.out.x _, Kd.R_alloc D4.out.b _, below_alloc D4.out.bl _⟩ : DoW w (w4.alloc (.cells #[.slice none 0 0, .slice none 0 0, .int .i64 0, .bool false] 29)) _ _ _ _ (.slice (some ⟨g0, 0, none⟩) sc.length k0) (.slice (some ⟨g1, 0, none⟩) ss.length k1) sc ss) (blk_new w4 _) (blk_lt D4.out.r)); generalize w4.alloc (.cells #[.slice none 0 0, .slice none 0 0, .int .i64 0, .bool false] 29) = w5 at T5 ⊢; generalize w4.heap.size = bt at T5 ⊢; clear q D4; have q := And.intro (doFacts T5.out.d) (And.intro (cells4 T5.out.t) (frozen4 T5.out.t)))) | ((with_reducible refine gate_store (t := 29) (p := 9) (v := .tmp 52) rfl ?_); go_must (refine store_event (w1 := put4 w5 bt (.slice (some ⟨g0, 0, none⟩) sc.length k0) (.slice (some ⟨g1, 0, none⟩) ss.length k1) (.int .i64 at_) (.bool dn)) (by rfl) (by rfl) (by rfl) ?hr ?_; (case hr => first | (go_simp; done) | (go_simp; rfl)); intro w6 hw6; have Fw6 := put4_facts T5.out.t (.slice (some ⟨g0, 0, none⟩) sc.length k0) (.slice (some ⟨g1, 0, none⟩) ss.length k1) (.int .i64 at_) (.bool dn); rw [← hw6] at Fw6; have T6 := Lib.hid (T5.out.putT Fw6); clear hw6 Fw6 q; have q := And.intro (doFacts T6.out.d) (And.intro (cells4 T6.out.t) (frozen4 T6.out.t)))) | (go_at_call 25; go_must (refine (rebusref05_Open.calls (hP.below T6.out.d.bl).gridC).mono ?_; rintro e w7 ⟨rfl, hb⟩; rw [hop.out]; have T7 := Lib.hid (T6.out.below hb); clear hb q; have q := And.intro (doFacts T7.out.d) (And.intro (cells4 T7.out.t) (frozen4 T7.out.t)))) | ((with_reducible refine gate_store (t := 3) (p := 133) (v := .tmp 132) rfl ?_); go_must (refine store_event (w1 := w7.setCell ⟨bt, 2, none⟩ (.int .i64 cell)) (by rfl) (by rfl) (by rfl) ?hr ?_; (case hr => first | (go_simp; done) | (go_simp; rfl)); intro w8 hw8; have Fw8 := one_facts (cs' := #[.slice (some ⟨g0, 0, none⟩) sc.length k0, .slice (some ⟨g1, 0, none⟩) ss.length k1, .int .i64 cell, .bool dn]) (i := 2) T7.out.t (.int .i64 cell) rfl; rw [← hw8] at Fw8; have T8 := Lib.hid (T7.out.putT Fw8); clear hw8 Fw8 q; have q := And.intro (doFacts T8.out.d) (And.intro (cells4 T8.out.t) (frozen4 T8.out.t)))) | ((with_reducible refine gate_store (t := 29) (p := 6) (v := .tmp 205) rfl ?_); go_must (refine store_event (w1 := put4 w8 (w.heap.size + 1 + 1 + 1) (.slice (some ⟨g0, 0, none⟩) sc.length k0) (.slice (some ⟨g1, 0, none⟩) ss.length k1) (.int .i64 cell) (.bool dn)) (by rfl) (by rfl) (by rfl) ?hr ?_; (case hr => first | (go_simp; done) | (go_simp; rfl)); intro w9 hw9; have Fw9 := put4_facts T8.out.d.r (.slice (some ⟨g0, 0, none⟩) sc.length k0) (.slice (some ⟨g1, 0, none⟩) ss.length k1) (.int .i64 cell) (.bool dn); rw [← hw9] at Fw9; have T9 := Lib.hid (T8.out.putR Fw9); clear hw9 Fw9 q)))
  refine bodyPost_ret (results_ct rfl _ _ (w.heap.size + 1 + 1 + 1) 29 #[.slice (some ⟨g0, 0, none⟩) sc.length k0, .slice (some ⟨g1, 0, none⟩) ss.length k1, .int .i64 cell, .bool dn] (0, 0) _ rfl T9.out.d.r Tryz.underlying29 rfl (by kernel_rfl)) rfl ?_
  exact ⟨_, _, rfl, T9.out.d.x, T9.out.d.b, T9.out.d.bl⟩
set_option maxHeartbeats 8000000 in
set_option maxRecDepth 1000000 in
theorem rdo_move_at {cell : Int} {text : ByteArray} {w : World} (hP : PuzR A2 c2 bl A3 c3 ri A4 c4 be A5 c5 cells A6 c6 clues w) (hS : ShtR A7 c7 sc A8 c8 ss w) (hz : PuzS title cells clues) (hzs : Small sc) (h0 : scheck title H W bl ri be cells clues sc ss at_ = 0) (htl : text.toList = []) (ho : gopen bl cell = true) (hn : cell = at_) :
    Calls Tryz.prog 8 #[.agg #[.string title, .int .i64 H, .int .i64 W, .slice A2 bl.length c2, .slice A3 ri.length c3, .slice A4 be.length c4, .slice A5 cells.length c5, .slice A6 clues.length c6], .agg #[.slice A7 sc.length c7, .slice A8 ss.length c8, .int .i64 at_, .bool dn], .agg #[.int .i64 3, .int .i64 cell, .string text]] w (DoPost w (sc, ss, cell, !dn, 0)) := by
  have hck := h0
  obtain ⟨hgc, hl0, hl1, hl2, ha0, ha1, hpos, h256⟩ := scheck_grid h0
  replace hck := Lib.hid hck
  replace hgc := Lib.hid hgc
  replace hl0 := Lib.hid hl0
  replace hl1 := Lib.hid hl1
  replace hl2 := Lib.hid hl2
  clear h0
  have hx := box4 w (.cells #[.string title, .int .i64 H, .int .i64 W, .slice A2 bl.length c2, .slice A3 ri.length c3, .slice A4 be.length c4, .slice A5 cells.length c5, .slice A6 clues.length c6] 27) (.cells #[.slice A7 sc.length c7, .slice A8 ss.length c8, .int .i64 at_, .bool dn] 29) (.cells #[.int .i64 3, .int .i64 cell, .string text] 31) (.cells #[.slice none 0 0, .slice none 0 0, .int .i64 0, .bool false] 29)
  replace hx := Lib.hid hx
  have e4 : text.toList.isEmpty = true := by rw [htl]; rfl
  replace htl := Lib.hid htl
  have hu30 := Tryz.underlying29
  have hu36 := Tryz.underlying31
  have hu27 := Tryz.underlying27
  have hu24 := Tryz.underlying24
  have hop : (decide (gcheck H W bl ri be = 0) && gopen bl cell) = true := by rw [ho, decide_eq_true hgc.out]; rfl
  replace hop := Lib.hid hop
  clear ho
  have t6 : (cell == at_) = true := by simpa using hn
  clear hn
  go_enter Tryz.func8, Tryz.ntmps8
  go_wp2_with (first | (go_at_call 21; go_must (refine (rebusref23_Check.calls (hP.below hx.out.2.2.2.2) (hS.below hx.out.2.2.2.2) hz hzs).mono ?_; rintro e w3 ⟨rfl, hb3⟩; rw [hck.out]; have D3 := Lib.hid (DoW.below (w := w) (⟨hx.out.1, hx.out.2.1, hx.out.2.2.1, hx.out.2.2.2.1, Kd.R_nil _ _ _ _ _, Kd.R_nil _ _ _ _ _, hx.out.2.2.2.2⟩ : DoW w _ _ _ _ _ (.slice none 0 0) (.slice none 0 0) [] []) hb3); clear hb3; have q := doFacts D3.out)) | (go_at_call 5; go_must (refine (rebusref23_Copied.calls (hS.below D3.out.bl) (by have := hl0.out; omega) (by have := hl1.out; omega)).mono ?_; rintro e w4 ⟨v0, v1, rfl, hr0, hr1, hb4⟩; obtain ⟨g0, k0, rfl⟩ := R_form_n hr0 (n := sc.length) rfl (by have := hl0.out; omega); obtain ⟨g1, k1, rfl⟩ := R_form_n hr1 (n := ss.length) rfl (by have := hl1.out; omega); have D4a := DoW.below D3.out hb4; have D4 := Lib.hid (⟨D4a.p, D4a.s, D4a.a, D4a.r, Kd.R_lower hr0 D3.out.bl.size, Kd.R_lower hr1 D3.out.bl.size, D4a.bl⟩ : DoW w w4 _ _ _ _ (.slice (some ⟨g0, 0, none⟩) sc.length k0) (.slice (some ⟨g1, 0, none⟩) ss.length k1) sc ss); clear q D4a hr0 hr1 hb4; have q := doFacts D4.out)) | ((with_reducible refine gate_dst (N := 9) rfl ?_); go_must (refine event_at (v := .pointer (some ⟨w4.heap.size, 0, none⟩)) (w1 := w4.alloc (.cells #[.slice none 0 0, .slice none 0 0, .int .i64 0, .bool false] 29)) (by rfl) ?hr ?_; (case hr => first | (go_simp; done) | (go_simp; rfl)); have T5 := Lib.hid (RdW.mk (⟨blk_alloc D4.out.p _, blk_alloc D4.out.s _, blk_alloc D4.out.a _, blk_alloc D4.out.r _, Kd.R_alloc D4.out.x _, Kd.R_alloc D4.out.b _, below_alloc D4.out.bl _⟩ : DoW w (w4.alloc (.cells #[.slice none 0 0, .slice none 0 0, .int .i64 0, .bool false] 29)) _ _ _ _ (.slice (some ⟨g0, 0, none⟩) sc.length k0) (.slice (some ⟨g1, 0, none⟩) ss.length k1) sc ss) (blk_new w4 _) (blk_lt D4.out.r)); generalize w4.alloc (.cells #[.slice none 0 0, .slice none 0 0, .int .i64 0, .bool false] 29) = w5 at T5 ⊢; generalize w4.heap.size = bt at T5 ⊢; clear q D4; have q := And.intro (doFacts T5.out.d) (And.intro (cells4 T5.out.t) (frozen4 T5.out.t)))) | ((with_reducible refine gate_store (t := 29) (p := 9) (v := .tmp 52) rfl ?_); go_must (refine store_event (w1 := put4 w5 bt (.slice (some ⟨g0, 0, none⟩) sc.length k0) (.slice (some ⟨g1, 0, none⟩) ss.length k1) (.int .i64 at_) (.bool dn)) (by rfl) (by rfl) (by rfl) ?hr ?_; (case hr => first | (go_simp; done) | (go_simp; rfl)); intro w6 hw6; have Fw6 := put4_facts T5.out.t (.slice (some ⟨g0, 0, none⟩) sc.length k0) (.slice (some ⟨g1, 0, none⟩) ss.length k1) (.int .i64 at_) (.bool dn); rw [← hw6] at Fw6; have T6 := Lib.hid (T5.out.putT Fw6); clear hw6 Fw6 q; have q := And.intro (doFacts T6.out.d) (And.intro (cells4 T6.out.t) (frozen4 T6.out.t)))) | (go_at_call 25; go_must (refine (rebusref05_Open.calls (hP.below T6.out.d.bl).gridC).mono ?_; rintro e w7 ⟨rfl, hb⟩; rw [hop.out]; have T7 := Lib.hid (T6.out.below hb); clear hb q; have q := And.intro (doFacts T7.out.d) (And.intro (cells4 T7.out.t) (frozen4 T7.out.t)))) | ((with_reducible refine gate_store (t := 4) (p := 130) (v := .tmp 129) rfl ?_); go_must (refine store_event (w1 := w7.setCell ⟨bt, 3, none⟩ (.bool (!dn))) (by rfl) (by rfl) (by rfl) ?hr ?_; (case hr => first | (go_simp; done) | (go_simp; rfl)); intro w8 hw8; have Fw8 := one_facts (cs' := #[.slice (some ⟨g0, 0, none⟩) sc.length k0, .slice (some ⟨g1, 0, none⟩) ss.length k1, .int .i64 at_, .bool (!dn)]) (i := 3) T7.out.t (.bool (!dn)) rfl; rw [← hw8] at Fw8; have T8 := Lib.hid (T7.out.putT Fw8); clear hw8 Fw8 q; have q := And.intro (doFacts T8.out.d) (And.intro (cells4 T8.out.t) (frozen4 T8.out.t)))) | ((with_reducible refine gate_store (t := 3) (p := 133) (v := .tmp 132) rfl ?_); go_must (refine store_event (w1 := w8.setCell ⟨bt, 2, none⟩ (.int .i64 cell)) (by rfl) (by rfl) (by rfl) ?hr ?_; (case hr => first | (go_simp; done) | (go_simp; rfl)); intro wa hwa; have Fwa := one_facts (cs' := #[.slice (some ⟨g0, 0, none⟩) sc.length k0, .slice (some ⟨g1, 0, none⟩) ss.length k1, .int .i64 cell, .bool (!dn)]) (i := 2) T8.out.t (.int .i64 cell) rfl; rw [← hwa] at Fwa; have Ta := Lib.hid (T8.out.putT Fwa); clear hwa Fwa q; have q := And.intro (doFacts Ta.out.d) (And.intro (cells4 Ta.out.t) (frozen4 Ta.out.t)))) | ((with_reducible refine gate_store (t := 29) (p := 6) (v := .tmp 205) rfl ?_); go_must (refine store_event (w1 := put4 wa (w.heap.size + 1 + 1 + 1) (.slice (some ⟨g0, 0, none⟩) sc.length k0) (.slice (some ⟨g1, 0, none⟩) ss.length k1) (.int .i64 cell) (.bool (!dn))) (by rfl) (by rfl) (by rfl) ?hr ?_; (case hr => first | (go_simp; done) | (go_simp; rfl)); intro w9 hw9; have Fw9 := put4_facts Ta.out.d.r (.slice (some ⟨g0, 0, none⟩) sc.length k0) (.slice (some ⟨g1, 0, none⟩) ss.length k1) (.int .i64 cell) (.bool (!dn)); rw [← hw9] at Fw9; have T9 := Lib.hid (Ta.out.putR Fw9); clear hw9 Fw9 q)))
  refine bodyPost_ret (results_ct rfl _ _ (w.heap.size + 1 + 1 + 1) 29 #[.slice (some ⟨g0, 0, none⟩) sc.length k0, .slice (some ⟨g1, 0, none⟩) ss.length k1, .int .i64 cell, .bool (!dn)] (0, 0) _ rfl T9.out.d.r Tryz.underlying29 rfl (by kernel_rfl)) rfl ?_
  exact ⟨_, _, rfl, T9.out.d.x, T9.out.d.b, T9.out.d.bl⟩
set_option maxHeartbeats 8000000 in
set_option maxRecDepth 1000000 in
theorem rdo_pencil_no {text : ByteArray} {w : World} (hP : PuzR A2 c2 bl A3 c3 ri A4 c4 be A5 c5 cells A6 c6 clues w) (hS : ShtR A7 c7 sc A8 c8 ss w) (hz : PuzS title cells clues) (hzs : Small sc) (h0 : scheck title H W bl ri be cells clues sc ss at_ = 0) (htl : text.toList = []) (he : emptyAt sc at_ = true) :
    Calls Tryz.prog 8 #[.agg #[.string title, .int .i64 H, .int .i64 W, .slice A2 bl.length c2, .slice A3 ri.length c3, .slice A4 be.length c4, .slice A5 cells.length c5, .slice A6 clues.length c6], .agg #[.slice A7 sc.length c7, .slice A8 ss.length c8, .int .i64 at_, .bool dn], .agg #[.int .i64 5, .int .i64 0, .string text]] w (DoPost w (doErr 140)) := by
  have hck := h0
  obtain ⟨hgc, hl0, hl1, hl2, ha0, ha1, hpos, h256⟩ := scheck_grid h0
  replace hck := Lib.hid hck
  replace hgc := Lib.hid hgc
  replace hl0 := Lib.hid hl0
  replace hl1 := Lib.hid hl1
  replace hl2 := Lib.hid hl2
  clear h0
  have hx := box4 w (.cells #[.string title, .int .i64 H, .int .i64 W, .slice A2 bl.length c2, .slice A3 ri.length c3, .slice A4 be.length c4, .slice A5 cells.length c5, .slice A6 clues.length c6] 27) (.cells #[.slice A7 sc.length c7, .slice A8 ss.length c8, .int .i64 at_, .bool dn] 29) (.cells #[.int .i64 5, .int .i64 0, .string text] 31) (.cells #[.slice none 0 0, .slice none 0 0, .int .i64 0, .bool false] 29)
  replace hx := Lib.hid hx
  have e4 : text.toList.isEmpty = true := by rw [htl]; rfl
  replace htl := Lib.hid htl
  obtain ⟨ads, eA, zx⟩ := Kd.at_string hS.r7 at_ ha0 (by have := hl0.out; omega)
  cases eA
  obtain ⟨xt, hxt⟩ : ∃ t, rdOf ByteArray.empty sc at_ = t := ⟨_, rfl⟩
  rw [hxt] at zx
  have te : xt.toList.isEmpty = true := by rw [← hxt]; exact he
  have tp1 : at_ < (sc.length : Int) := by have := hl0.out; omega
  clear he
  replace hxt := Lib.hid hxt
  replace zx := Lib.hid zx
  have hu30 := Tryz.underlying29
  have hu36 := Tryz.underlying31
  have hu27 := Tryz.underlying27
  have hu24 := Tryz.underlying24
  go_enter Tryz.func8, Tryz.ntmps8
  go_wp2_with (first | (go_at_call 21; go_must (refine (rebusref23_Check.calls (hP.below hx.out.2.2.2.2) (hS.below hx.out.2.2.2.2) hz hzs).mono ?_; rintro e w3 ⟨rfl, hb3⟩; rw [hck.out]; have D3 := Lib.hid (DoW.below (w := w) (⟨hx.out.1, hx.out.2.1, hx.out.2.2.1, hx.out.2.2.2.1, Kd.R_nil _ _ _ _ _, Kd.R_nil _ _ _ _ _, hx.out.2.2.2.2⟩ : DoW w _ _ _ _ _ (.slice none 0 0) (.slice none 0 0) [] []) hb3); clear hb3; have q := doFacts D3.out)) | (go_at_call 5; go_must (refine (rebusref23_Copied.calls (hS.below D3.out.bl) (by have := hl0.out; omega) (by have := hl1.out; omega)).mono ?_; rintro e w4 ⟨v0, v1, rfl, hr0, hr1, hb4⟩; obtain ⟨g0, k0, rfl⟩ := R_form_n hr0 (n := sc.length) rfl (by have := hl0.out; omega); obtain ⟨g1, k1, rfl⟩ := R_form_n hr1 (n := ss.length) rfl (by have := hl1.out; omega); have D4a := DoW.below D3.out hb4; have D4 := Lib.hid (⟨D4a.p, D4a.s, D4a.a, D4a.r, Kd.R_lower hr0 D3.out.bl.size, Kd.R_lower hr1 D3.out.bl.size, D4a.bl⟩ : DoW w w4 _ _ _ _ (.slice (some ⟨g0, 0, none⟩) sc.length k0) (.slice (some ⟨g1, 0, none⟩) ss.length k1) sc ss); clear q D4a hr0 hr1 hb4; have q := doFacts D4.out)) | ((with_reducible refine gate_dst (N := 9) rfl ?_); go_must (refine event_at (v := .pointer (some ⟨w4.heap.size, 0, none⟩)) (w1 := w4.alloc (.cells #[.slice none 0 0, .slice none 0 0, .int .i64 0, .bool false] 29)) (by rfl) ?hr ?_; (case hr => first | (go_simp; done) | (go_simp; rfl)); have T5 := Lib.hid (RdW.mk (⟨blk_alloc D4.out.p _, blk_alloc D4.out.s _, blk_alloc D4.out.a _, blk_alloc D4.out.r _, Kd.R_alloc D4.out.x _, Kd.R_alloc D4.out.b _, below_alloc D4.out.bl _⟩ : DoW w (w4.alloc (.cells #[.slice none 0 0, .slice none 0 0, .int .i64 0, .bool false] 29)) _ _ _ _ (.slice (some ⟨g0, 0, none⟩) sc.length k0) (.slice (some ⟨g1, 0, none⟩) ss.length k1) sc ss) (blk_new w4 _) (blk_lt D4.out.r)); generalize w4.alloc (.cells #[.slice none 0 0, .slice none 0 0, .int .i64 0, .bool false] 29) = w5 at T5 ⊢; generalize w4.heap.size = bt at T5 ⊢; clear q D4; have q := And.intro (doFacts T5.out.d) (And.intro (cells4 T5.out.t) (frozen4 T5.out.t)))) | ((with_reducible refine gate_store (t := 29) (p := 9) (v := .tmp 52) rfl ?_); go_must (refine store_event (w1 := put4 w5 bt (.slice (some ⟨g0, 0, none⟩) sc.length k0) (.slice (some ⟨g1, 0, none⟩) ss.length k1) (.int .i64 at_) (.bool dn)) (by rfl) (by rfl) (by rfl) ?hr ?_; (case hr => first | (go_simp; done) | (go_simp; rfl)); intro w6 hw6; have Fw6 := put4_facts T5.out.t (.slice (some ⟨g0, 0, none⟩) sc.length k0) (.slice (some ⟨g1, 0, none⟩) ss.length k1) (.int .i64 at_) (.bool dn); rw [← hw6] at Fw6; have T6 := Lib.hid (T5.out.putT Fw6); clear hw6 Fw6 q; have q := And.intro (doFacts T6.out.d) (And.intro (cells4 T6.out.t) (frozen4 T6.out.t)); have zx6 := pw_cell_below T6.out.d.bl zx.out)) | ((with_reducible refine gate_store (t := 29) (p := 6) (v := .tmp 149) rfl ?_); go_must (refine store_event (w1 := put4 w6 (w.heap.size + 1 + 1 + 1) (.slice none 0 0) (.slice none 0 0) (.int .i64 0) (.bool false)) (by rfl) (by rfl) (by rfl) ?hr ?_; (case hr => first | (go_simp; done) | (go_simp; rfl)); intro w9 hw9; have Fw9 := put4_facts T6.out.d.r (.slice none 0 0) (.slice none 0 0) (.int .i64 0) (.bool false); rw [← hw9] at Fw9; have T9 := Lib.hid (T6.out.putR Fw9); clear hw9 Fw9 q)))
  refine bodyPost_ret (results_ct rfl _ _ (w.heap.size + 1 + 1 + 1) 29 #[.slice none 0 0, .slice none 0 0, .int .i64 0, .bool false] (0, 0) _ rfl T9.out.d.r Tryz.underlying29 rfl (by kernel_rfl)) rfl ?_
  exact DoPost.err T9.out.d.bl
set_option maxHeartbeats 8000000 in
set_option maxRecDepth 1000000 in
theorem rdo_pencil {text : ByteArray} {w : World} (hP : PuzR A2 c2 bl A3 c3 ri A4 c4 be A5 c5 cells A6 c6 clues w) (hS : ShtR A7 c7 sc A8 c8 ss w) (hz : PuzS title cells clues) (hzs : Small sc) (h0 : scheck title H W bl ri be cells clues sc ss at_ = 0) (htl : text.toList = []) (he : emptyAt sc at_ = false) :
    Calls Tryz.prog 8 #[.agg #[.string title, .int .i64 H, .int .i64 W, .slice A2 bl.length c2, .slice A3 ri.length c3, .slice A4 be.length c4, .slice A5 cells.length c5, .slice A6 clues.length c6], .agg #[.slice A7 sc.length c7, .slice A8 ss.length c8, .int .i64 at_, .bool dn], .agg #[.int .i64 5, .int .i64 0, .string text]] w (DoPost w (sc, ss.set at_.toNat (!rdOf false ss at_), at_, dn, 0)) := by
  have hck := h0
  obtain ⟨hgc, hl0, hl1, hl2, ha0, ha1, hpos, h256⟩ := scheck_grid h0
  replace hck := Lib.hid hck
  replace hgc := Lib.hid hgc
  replace hl0 := Lib.hid hl0
  replace hl1 := Lib.hid hl1
  replace hl2 := Lib.hid hl2
  clear h0
  have hx := box4 w (.cells #[.string title, .int .i64 H, .int .i64 W, .slice A2 bl.length c2, .slice A3 ri.length c3, .slice A4 be.length c4, .slice A5 cells.length c5, .slice A6 clues.length c6] 27) (.cells #[.slice A7 sc.length c7, .slice A8 ss.length c8, .int .i64 at_, .bool dn] 29) (.cells #[.int .i64 5, .int .i64 0, .string text] 31) (.cells #[.slice none 0 0, .slice none 0 0, .int .i64 0, .bool false] 29)
  replace hx := Lib.hid hx
  have e4 : text.toList.isEmpty = true := by rw [htl]; rfl
  replace htl := Lib.hid htl
  obtain ⟨ads, eA, zx⟩ := Kd.at_string hS.r7 at_ ha0 (by have := hl0.out; omega)
  cases eA
  obtain ⟨xt, hxt⟩ : ∃ t, rdOf ByteArray.empty sc at_ = t := ⟨_, rfl⟩
  rw [hxt] at zx
  have te : xt.toList.isEmpty = false := by rw [← hxt]; exact he
  have tp1 : at_ < (sc.length : Int) := by have := hl0.out; omega
  clear he
  replace hxt := Lib.hid hxt
  replace zx := Lib.hid zx
  obtain ⟨adt, eA2, zy⟩ := Kd.at_bool hS.r8 at_ ha0 (by have := hl1.out; omega)
  cases eA2
  have tp2 : at_ < (ss.length : Int) := by have := hl1.out; omega
  obtain ⟨bv, hbv⟩ : ∃ b, rdOf false ss at_ = b := ⟨_, rfl⟩
  rw [hbv] at zy
  rw [hbv]
  replace zy := Lib.hid zy
  have hu30 := Tryz.underlying29
  have hu36 := Tryz.underlying31
  have hu27 := Tryz.underlying27
  have hu24 := Tryz.underlying24
  go_enter Tryz.func8, Tryz.ntmps8
  go_wp2_with (first | (go_at_call 21; go_must (refine (rebusref23_Check.calls (hP.below hx.out.2.2.2.2) (hS.below hx.out.2.2.2.2) hz hzs).mono ?_; rintro e w3 ⟨rfl, hb3⟩; rw [hck.out]; have D3 := Lib.hid (DoW.below (w := w) (⟨hx.out.1, hx.out.2.1, hx.out.2.2.1, hx.out.2.2.2.1, Kd.R_nil _ _ _ _ _, Kd.R_nil _ _ _ _ _, hx.out.2.2.2.2⟩ : DoW w _ _ _ _ _ (.slice none 0 0) (.slice none 0 0) [] []) hb3); clear hb3; have q := doFacts D3.out)) | (go_at_call 5; go_must (refine (rebusref23_Copied.calls (hS.below D3.out.bl) (by have := hl0.out; omega) (by have := hl1.out; omega)).mono ?_; rintro e w4 ⟨v0, v1, rfl, hr0, hr1, hb4⟩; obtain ⟨g0, k0, rfl⟩ := R_form_n hr0 (n := sc.length) rfl (by have := hl0.out; omega); obtain ⟨g1, k1, rfl⟩ := R_form_n hr1 (n := ss.length) rfl (by have := hl1.out; omega); have D4a := DoW.below D3.out hb4; have D4 := Lib.hid (⟨D4a.p, D4a.s, D4a.a, D4a.r, Kd.R_lower hr0 D3.out.bl.size, Kd.R_lower hr1 D3.out.bl.size, D4a.bl⟩ : DoW w w4 _ _ _ _ (.slice (some ⟨g0, 0, none⟩) sc.length k0) (.slice (some ⟨g1, 0, none⟩) ss.length k1) sc ss); clear q D4a hr0 hr1 hb4; have q := doFacts D4.out)) | ((with_reducible refine gate_dst (N := 9) rfl ?_); go_must (refine event_at (v := .pointer (some ⟨w4.heap.size, 0, none⟩)) (w1 := w4.alloc (.cells #[.slice none 0 0, .slice none 0 0, .int .i64 0, .bool false] 29)) (by rfl) ?hr ?_; (case hr => first | (go_simp; done) | (go_simp; rfl)); have T5 := Lib.hid (RdW.mk (⟨blk_alloc D4.out.p _, blk_alloc D4.out.s _, blk_alloc D4.out.a _, blk_alloc D4.out.r _, Kd.R_alloc D4.out.x _, Kd.R_alloc D4.out.b _, below_alloc D4.out.bl _⟩ : DoW w (w4.alloc (.cells #[.slice none 0 0, .slice none 0 0, .int .i64 0, .bool false] 29)) _ _ _ _ (.slice (some ⟨g0, 0, none⟩) sc.length k0) (.slice (some ⟨g1, 0, none⟩) ss.length k1) sc ss) (blk_new w4 _) (blk_lt D4.out.r)); generalize w4.alloc (.cells #[.slice none 0 0, .slice none 0 0, .int .i64 0, .bool false] 29) = w5 at T5 ⊢; generalize w4.heap.size = bt at T5 ⊢; clear q D4; have q := And.intro (doFacts T5.out.d) (And.intro (cells4 T5.out.t) (frozen4 T5.out.t)))) | ((with_reducible refine gate_store (t := 29) (p := 9) (v := .tmp 52) rfl ?_); go_must (refine store_event (w1 := put4 w5 bt (.slice (some ⟨g0, 0, none⟩) sc.length k0) (.slice (some ⟨g1, 0, none⟩) ss.length k1) (.int .i64 at_) (.bool dn)) (by rfl) (by rfl) (by rfl) ?hr ?_; (case hr => first | (go_simp; done) | (go_simp; rfl)); intro w6 hw6; have Fw6 := put4_facts T5.out.t (.slice (some ⟨g0, 0, none⟩) sc.length k0) (.slice (some ⟨g1, 0, none⟩) ss.length k1) (.int .i64 at_) (.bool dn); rw [← hw6] at Fw6; have T6 := Lib.hid (T5.out.putT Fw6); clear hw6 Fw6 q; have q := And.intro (doFacts T6.out.d) (And.intro (cells4 T6.out.t) (frozen4 T6.out.t)); have zx6 := pw_cell_below T6.out.d.bl zx.out; have zy6 := pw_cell_below T6.out.d.bl zy.out)))
  obtain ⟨cs1, hc1⟩ := Kd.R_typed T6.out.d.b g1 rfl
  obtain ⟨adb, eB, zb⟩ := Kd.at_bool (Kd.R_reads' T6.out.d.b).2.2 at_ ha0 tp2
  cases eB
  rw [hbv, add_plain] at zb
  have zb2 : w6.drew.cell? ⟨g1, at_.toNat, none⟩ = some (.bool bv) := zb
  have fb := blk_frozen (blk_drew hc1) at_.toNat
  clear hc1
  have T7 := Lib.hid (T6.out.setB at_ (!bv)).drew
  clear zx6
  go_region
  generalize (w6.setCell ⟨g1, at_.toNat, none⟩ (.bool (!bv))).drew = w7 at T7 ⊢
  clear zb zb2 fb zy6 q
  have q := And.intro (doFacts T7.out.d) (And.intro (cells4 T7.out.t) (frozen4 T7.out.t))
  go_wp2_with (first | ((with_reducible refine gate_store (t := 29) (p := 6) (v := .tmp 205) rfl ?_); go_must (refine store_event (w1 := put4 w7 (w.heap.size + 1 + 1 + 1) (.slice (some ⟨g0, 0, none⟩) sc.length k0) (.slice (some ⟨g1, 0, none⟩) ss.length k1) (.int .i64 at_) (.bool dn)) (by rfl) (by rfl) (by rfl) ?hr ?_; (case hr => first | (go_simp; done) | (go_simp; rfl)); intro w9 hw9; have Fw9 := put4_facts T7.out.d.r (.slice (some ⟨g0, 0, none⟩) sc.length k0) (.slice (some ⟨g1, 0, none⟩) ss.length k1) (.int .i64 at_) (.bool dn); rw [← hw9] at Fw9; have T9 := Lib.hid (T7.out.putR Fw9); clear hw9 Fw9 q)))
  refine bodyPost_ret (results_ct rfl _ _ (w.heap.size + 1 + 1 + 1) 29 #[.slice (some ⟨g0, 0, none⟩) sc.length k0, .slice (some ⟨g1, 0, none⟩) ss.length k1, .int .i64 at_, .bool dn] (0, 0) _ rfl T9.out.d.r Tryz.underlying29 rfl (by kernel_rfl)) rfl ?_
  exact ⟨_, _, rfl, T9.out.d.x, T9.out.d.b, T9.out.d.bl⟩
set_option maxHeartbeats 8000000 in
set_option maxRecDepth 1000000 in
theorem rdo_reveal_no {text : ByteArray} {w : World} (hP : PuzR A2 c2 bl A3 c3 ri A4 c4 be A5 c5 cells A6 c6 clues w) (hS : ShtR A7 c7 sc A8 c8 ss w) (hz : PuzS title cells clues) (hzs : Small sc) (h0 : scheck title H W bl ri be cells clues sc ss at_ = 0) (htl : text.toList = []) (he : emptyAt cells at_ = true) :
    Calls Tryz.prog 8 #[.agg #[.string title, .int .i64 H, .int .i64 W, .slice A2 bl.length c2, .slice A3 ri.length c3, .slice A4 be.length c4, .slice A5 cells.length c5, .slice A6 clues.length c6], .agg #[.slice A7 sc.length c7, .slice A8 ss.length c8, .int .i64 at_, .bool dn], .agg #[.int .i64 6, .int .i64 0, .string text]] w (DoPost w (doErr 140)) := by
  have hck := h0
  obtain ⟨hgc, hl0, hl1, hl2, ha0, ha1, hpos, h256⟩ := scheck_grid h0
  replace hck := Lib.hid hck
  replace hgc := Lib.hid hgc
  replace hl0 := Lib.hid hl0
  replace hl1 := Lib.hid hl1
  replace hl2 := Lib.hid hl2
  clear h0
  have hx := box4 w (.cells #[.string title, .int .i64 H, .int .i64 W, .slice A2 bl.length c2, .slice A3 ri.length c3, .slice A4 be.length c4, .slice A5 cells.length c5, .slice A6 clues.length c6] 27) (.cells #[.slice A7 sc.length c7, .slice A8 ss.length c8, .int .i64 at_, .bool dn] 29) (.cells #[.int .i64 6, .int .i64 0, .string text] 31) (.cells #[.slice none 0 0, .slice none 0 0, .int .i64 0, .bool false] 29)
  replace hx := Lib.hid hx
  have e4 : text.toList.isEmpty = true := by rw [htl]; rfl
  replace htl := Lib.hid htl
  obtain ⟨adp, eA, zp⟩ := Kd.at_string hP.r5 at_ ha0 (by have := hl2.out; omega)
  cases eA
  obtain ⟨pt, hpt⟩ : ∃ t, rdOf ByteArray.empty cells at_ = t := ⟨_, rfl⟩
  rw [hpt] at zp
  have te : pt.toList.isEmpty = true := by rw [← hpt]; exact he
  have tp1 : at_ < (cells.length : Int) := by have := hl2.out; omega
  clear he
  replace hpt := Lib.hid hpt
  replace zp := Lib.hid zp
  have hu30 := Tryz.underlying29
  have hu36 := Tryz.underlying31
  have hu27 := Tryz.underlying27
  have hu24 := Tryz.underlying24
  go_enter Tryz.func8, Tryz.ntmps8
  go_wp2_with (first | (go_at_call 21; go_must (refine (rebusref23_Check.calls (hP.below hx.out.2.2.2.2) (hS.below hx.out.2.2.2.2) hz hzs).mono ?_; rintro e w3 ⟨rfl, hb3⟩; rw [hck.out]; have D3 := Lib.hid (DoW.below (w := w) (⟨hx.out.1, hx.out.2.1, hx.out.2.2.1, hx.out.2.2.2.1, Kd.R_nil _ _ _ _ _, Kd.R_nil _ _ _ _ _, hx.out.2.2.2.2⟩ : DoW w _ _ _ _ _ (.slice none 0 0) (.slice none 0 0) [] []) hb3); clear hb3; have q := doFacts D3.out)) | (go_at_call 5; go_must (refine (rebusref23_Copied.calls (hS.below D3.out.bl) (by have := hl0.out; omega) (by have := hl1.out; omega)).mono ?_; rintro e w4 ⟨v0, v1, rfl, hr0, hr1, hb4⟩; obtain ⟨g0, k0, rfl⟩ := R_form_n hr0 (n := sc.length) rfl (by have := hl0.out; omega); obtain ⟨g1, k1, rfl⟩ := R_form_n hr1 (n := ss.length) rfl (by have := hl1.out; omega); have D4a := DoW.below D3.out hb4; have D4 := Lib.hid (⟨D4a.p, D4a.s, D4a.a, D4a.r, Kd.R_lower hr0 D3.out.bl.size, Kd.R_lower hr1 D3.out.bl.size, D4a.bl⟩ : DoW w w4 _ _ _ _ (.slice (some ⟨g0, 0, none⟩) sc.length k0) (.slice (some ⟨g1, 0, none⟩) ss.length k1) sc ss); clear q D4a hr0 hr1 hb4; have q := doFacts D4.out)) | ((with_reducible refine gate_dst (N := 9) rfl ?_); go_must (refine event_at (v := .pointer (some ⟨w4.heap.size, 0, none⟩)) (w1 := w4.alloc (.cells #[.slice none 0 0, .slice none 0 0, .int .i64 0, .bool false] 29)) (by rfl) ?hr ?_; (case hr => first | (go_simp; done) | (go_simp; rfl)); have T5 := Lib.hid (RdW.mk (⟨blk_alloc D4.out.p _, blk_alloc D4.out.s _, blk_alloc D4.out.a _, blk_alloc D4.out.r _, Kd.R_alloc D4.out.x _, Kd.R_alloc D4.out.b _, below_alloc D4.out.bl _⟩ : DoW w (w4.alloc (.cells #[.slice none 0 0, .slice none 0 0, .int .i64 0, .bool false] 29)) _ _ _ _ (.slice (some ⟨g0, 0, none⟩) sc.length k0) (.slice (some ⟨g1, 0, none⟩) ss.length k1) sc ss) (blk_new w4 _) (blk_lt D4.out.r)); generalize w4.alloc (.cells #[.slice none 0 0, .slice none 0 0, .int .i64 0, .bool false] 29) = w5 at T5 ⊢; generalize w4.heap.size = bt at T5 ⊢; clear q D4; have q := And.intro (doFacts T5.out.d) (And.intro (cells4 T5.out.t) (frozen4 T5.out.t)))) | ((with_reducible refine gate_store (t := 29) (p := 9) (v := .tmp 52) rfl ?_); go_must (refine store_event (w1 := put4 w5 bt (.slice (some ⟨g0, 0, none⟩) sc.length k0) (.slice (some ⟨g1, 0, none⟩) ss.length k1) (.int .i64 at_) (.bool dn)) (by rfl) (by rfl) (by rfl) ?hr ?_; (case hr => first | (go_simp; done) | (go_simp; rfl)); intro w6 hw6; have Fw6 := put4_facts T5.out.t (.slice (some ⟨g0, 0, none⟩) sc.length k0) (.slice (some ⟨g1, 0, none⟩) ss.length k1) (.int .i64 at_) (.bool dn); rw [← hw6] at Fw6; have T6 := Lib.hid (T5.out.putT Fw6); clear hw6 Fw6 q; have q := And.intro (doFacts T6.out.d) (And.intro (cells4 T6.out.t) (frozen4 T6.out.t)); have zp6 := pw_cell_below T6.out.d.bl zp.out)) | ((with_reducible refine gate_store (t := 29) (p := 6) (v := .tmp 171) rfl ?_); go_must (refine store_event (w1 := put4 w6 (w.heap.size + 1 + 1 + 1) (.slice none 0 0) (.slice none 0 0) (.int .i64 0) (.bool false)) (by rfl) (by rfl) (by rfl) ?hr ?_; (case hr => first | (go_simp; done) | (go_simp; rfl)); intro w9 hw9; have Fw9 := put4_facts T6.out.d.r (.slice none 0 0) (.slice none 0 0) (.int .i64 0) (.bool false); rw [← hw9] at Fw9; have T9 := Lib.hid (T6.out.putR Fw9); clear hw9 Fw9 q)))
  refine bodyPost_ret (results_ct rfl _ _ (w.heap.size + 1 + 1 + 1) 29 #[.slice none 0 0, .slice none 0 0, .int .i64 0, .bool false] (0, 0) _ rfl T9.out.d.r Tryz.underlying29 rfl (by kernel_rfl)) rfl ?_
  exact DoPost.err T9.out.d.bl
set_option maxHeartbeats 8000000 in
set_option maxRecDepth 1000000 in
theorem rdo_wipe {text : ByteArray} {w : World} (hP : PuzR A2 c2 bl A3 c3 ri A4 c4 be A5 c5 cells A6 c6 clues w) (hS : ShtR A7 c7 sc A8 c8 ss w) (hz : PuzS title cells clues) (hzs : Small sc) (h0 : scheck title H W bl ri be cells clues sc ss at_ = 0) (htl : text.toList = []) (he : emptyAt sc at_ = false) :
    Calls Tryz.prog 8 #[.agg #[.string title, .int .i64 H, .int .i64 W, .slice A2 bl.length c2, .slice A3 ri.length c3, .slice A4 be.length c4, .slice A5 cells.length c5, .slice A6 clues.length c6], .agg #[.slice A7 sc.length c7, .slice A8 ss.length c8, .int .i64 at_, .bool dn], .agg #[.int .i64 2, .int .i64 0, .string text]] w (DoPost w (sc.set at_.toNat ⟨#[]⟩, ss.set at_.toNat false, at_, dn, 0)) := by
  have hck := h0
  obtain ⟨hgc, hl0, hl1, hl2, ha0, ha1, hpos, h256⟩ := scheck_grid h0
  replace hck := Lib.hid hck
  replace hgc := Lib.hid hgc
  replace hl0 := Lib.hid hl0
  replace hl1 := Lib.hid hl1
  replace hl2 := Lib.hid hl2
  clear h0
  have hx := box4 w (.cells #[.string title, .int .i64 H, .int .i64 W, .slice A2 bl.length c2, .slice A3 ri.length c3, .slice A4 be.length c4, .slice A5 cells.length c5, .slice A6 clues.length c6] 27) (.cells #[.slice A7 sc.length c7, .slice A8 ss.length c8, .int .i64 at_, .bool dn] 29) (.cells #[.int .i64 2, .int .i64 0, .string text] 31) (.cells #[.slice none 0 0, .slice none 0 0, .int .i64 0, .bool false] 29)
  replace hx := Lib.hid hx
  have e4 : text.toList.isEmpty = true := by rw [htl]; rfl
  replace htl := Lib.hid htl
  obtain ⟨xt, hxt⟩ : ∃ t, rdOf ByteArray.empty sc at_ = t := ⟨_, rfl⟩
  have te : xt.toList.isEmpty = false := by rw [← hxt]; exact he
  have tp1 : at_ < (sc.length : Int) := by have := hl0.out; omega
  have tp2 : at_ < (ss.length : Int) := by have := hl1.out; omega
  clear he
  replace hxt := Lib.hid hxt
  have hu30 := Tryz.underlying29
  have hu36 := Tryz.underlying31
  have hu27 := Tryz.underlying27
  have hu24 := Tryz.underlying24
  go_enter Tryz.func8, Tryz.ntmps8
  go_wp2_with (first | (go_at_call 21; go_must (refine (rebusref23_Check.calls (hP.below hx.out.2.2.2.2) (hS.below hx.out.2.2.2.2) hz hzs).mono ?_; rintro e w3 ⟨rfl, hb3⟩; rw [hck.out]; have D3 := Lib.hid (DoW.below (w := w) (⟨hx.out.1, hx.out.2.1, hx.out.2.2.1, hx.out.2.2.2.1, Kd.R_nil _ _ _ _ _, Kd.R_nil _ _ _ _ _, hx.out.2.2.2.2⟩ : DoW w _ _ _ _ _ (.slice none 0 0) (.slice none 0 0) [] []) hb3); clear hb3; have q := doFacts D3.out)) | (go_at_call 5; go_must (refine (rebusref23_Copied.calls (hS.below D3.out.bl) (by have := hl0.out; omega) (by have := hl1.out; omega)).mono ?_; rintro e w4 ⟨v0, v1, rfl, hr0, hr1, hb4⟩; obtain ⟨g0, k0, rfl⟩ := R_form_n hr0 (n := sc.length) rfl (by have := hl0.out; omega); obtain ⟨g1, k1, rfl⟩ := R_form_n hr1 (n := ss.length) rfl (by have := hl1.out; omega); have D4a := DoW.below D3.out hb4; have D4 := Lib.hid (⟨D4a.p, D4a.s, D4a.a, D4a.r, Kd.R_lower hr0 D3.out.bl.size, Kd.R_lower hr1 D3.out.bl.size, D4a.bl⟩ : DoW w w4 _ _ _ _ (.slice (some ⟨g0, 0, none⟩) sc.length k0) (.slice (some ⟨g1, 0, none⟩) ss.length k1) sc ss); clear q D4a hr0 hr1 hb4; have q := doFacts D4.out)) | ((with_reducible refine gate_dst (N := 9) rfl ?_); go_must (refine event_at (v := .pointer (some ⟨w4.heap.size, 0, none⟩)) (w1 := w4.alloc (.cells #[.slice none 0 0, .slice none 0 0, .int .i64 0, .bool false] 29)) (by rfl) ?hr ?_; (case hr => first | (go_simp; done) | (go_simp; rfl)); have T5 := Lib.hid (RdW.mk (⟨blk_alloc D4.out.p _, blk_alloc D4.out.s _, blk_alloc D4.out.a _, blk_alloc D4.out.r _, Kd.R_alloc D4.out.x _, Kd.R_alloc D4.out.b _, below_alloc D4.out.bl _⟩ : DoW w (w4.alloc (.cells #[.slice none 0 0, .slice none 0 0, .int .i64 0, .bool false] 29)) _ _ _ _ (.slice (some ⟨g0, 0, none⟩) sc.length k0) (.slice (some ⟨g1, 0, none⟩) ss.length k1) sc ss) (blk_new w4 _) (blk_lt D4.out.r)); generalize w4.alloc (.cells #[.slice none 0 0, .slice none 0 0, .int .i64 0, .bool false] 29) = w5 at T5 ⊢; generalize w4.heap.size = bt at T5 ⊢; clear q D4; have q := And.intro (doFacts T5.out.d) (And.intro (cells4 T5.out.t) (frozen4 T5.out.t)))) | ((with_reducible refine gate_store (t := 29) (p := 9) (v := .tmp 52) rfl ?_); go_must (refine store_event (w1 := put4 w5 bt (.slice (some ⟨g0, 0, none⟩) sc.length k0) (.slice (some ⟨g1, 0, none⟩) ss.length k1) (.int .i64 at_) (.bool dn)) (by rfl) (by rfl) (by rfl) ?hr ?_; (case hr => first | (go_simp; done) | (go_simp; rfl)); intro w6 hw6; have Fw6 := put4_facts T5.out.t (.slice (some ⟨g0, 0, none⟩) sc.length k0) (.slice (some ⟨g1, 0, none⟩) ss.length k1) (.int .i64 at_) (.bool dn); rw [← hw6] at Fw6; have T6 := Lib.hid (T5.out.putT Fw6); clear hw6 Fw6 q; have q := And.intro (doFacts T6.out.d) (And.intro (cells4 T6.out.t) (frozen4 T6.out.t)); obtain ⟨_, eX, zx6⟩ := Kd.at_string (Kd.R_reads' T6.out.d.x).2.2 at_ ha0 tp1; cases eX; rw [add_plain, hxt.out] at zx6)))
  clear zx6
  have sp0 := T6.out.spotX at_ ha0 (by have := hl0.out; omega)
  have sp1 := T6.out.spotB at_ ha0 (by have := hl1.out; omega)
  have sp2 := (T6.out.setX at_ (⟨#[]⟩)).spotB at_ ha0 (by have := hl1.out; omega)
  have sp3 := And.intro (doFacts (T6.out.setX at_ (⟨#[]⟩)).drew.d) (cells4 (T6.out.setX at_ (⟨#[]⟩)).drew.t)
  have T7 := Lib.hid (T6.out.set2 at_ (⟨#[]⟩) false)
  go_region
  generalize ((w6.setCell ⟨g0, (at_).toNat, none⟩ (.string (⟨#[]⟩))).setCell ⟨g1, (at_).toNat, none⟩ (.bool false)).drew = w7 at T7 ⊢
  clear sp0 sp1 sp2 sp3 q
  have q := And.intro (doFacts T7.out.d) (And.intro (cells4 T7.out.t) (frozen4 T7.out.t))
  go_wp2_with (first | ((with_reducible refine gate_store (t := 29) (p := 6) (v := .tmp 205) rfl ?_); go_must (refine store_event (w1 := put4 w7 (w.heap.size + 1 + 1 + 1) (.slice (some ⟨g0, 0, none⟩) sc.length k0) (.slice (some ⟨g1, 0, none⟩) ss.length k1) (.int .i64 at_) (.bool dn)) (by rfl) (by rfl) (by rfl) ?hr ?_; (case hr => first | (go_simp; done) | (go_simp; rfl)); intro w9 hw9; have Fw9 := put4_facts T7.out.d.r (.slice (some ⟨g0, 0, none⟩) sc.length k0) (.slice (some ⟨g1, 0, none⟩) ss.length k1) (.int .i64 at_) (.bool dn); rw [← hw9] at Fw9; have T9 := Lib.hid (T7.out.putR Fw9); clear hw9 Fw9 q)))
  refine bodyPost_ret (results_ct rfl _ _ (w.heap.size + 1 + 1 + 1) 29 #[.slice (some ⟨g0, 0, none⟩) sc.length k0, .slice (some ⟨g1, 0, none⟩) ss.length k1, .int .i64 at_, .bool dn] (0, 0) _ rfl T9.out.d.r Tryz.underlying29 rfl (by kernel_rfl)) rfl ?_
  exact ⟨_, _, rfl, T9.out.d.x, T9.out.d.b, T9.out.d.bl⟩
set_option maxHeartbeats 8000000 in
set_option maxRecDepth 1000000 in
theorem rdo_wipe_stay {text : ByteArray} {w : World} (hP : PuzR A2 c2 bl A3 c3 ri A4 c4 be A5 c5 cells A6 c6 clues w) (hS : ShtR A7 c7 sc A8 c8 ss w) (hz : PuzS title cells clues) (hzs : Small sc) (h0 : scheck title H W bl ri be cells clues sc ss at_ = 0) (htl : text.toList = []) (he : emptyAt sc at_ = true) {b : Int} (hbs : besideOf H W bl ri be at_ dn (-1) = b) (hb0 : b < 0) :
    Calls Tryz.prog 8 #[.agg #[.string title, .int .i64 H, .int .i64 W, .slice A2 bl.length c2, .slice A3 ri.length c3, .slice A4 be.length c4, .slice A5 cells.length c5, .slice A6 clues.length c6], .agg #[.slice A7 sc.length c7, .slice A8 ss.length c8, .int .i64 at_, .bool dn], .agg #[.int .i64 2, .int .i64 0, .string text]] w (DoPost w (sc.set at_.toNat ⟨#[]⟩, ss.set at_.toNat false, at_, dn, 0)) := by
  have hck := h0
  obtain ⟨hgc, hl0, hl1, hl2, ha0, ha1, hpos, h256⟩ := scheck_grid h0
  replace hck := Lib.hid hck
  replace hgc := Lib.hid hgc
  replace hl0 := Lib.hid hl0
  replace hl1 := Lib.hid hl1
  replace hl2 := Lib.hid hl2
  clear h0
  have hx := box4 w (.cells #[.string title, .int .i64 H, .int .i64 W, .slice A2 bl.length c2, .slice A3 ri.length c3, .slice A4 be.length c4, .slice A5 cells.length c5, .slice A6 clues.length c6] 27) (.cells #[.slice A7 sc.length c7, .slice A8 ss.length c8, .int .i64 at_, .bool dn] 29) (.cells #[.int .i64 2, .int .i64 0, .string text] 31) (.cells #[.slice none 0 0, .slice none 0 0, .int .i64 0, .bool false] 29)
  replace hx := Lib.hid hx
  have e4 : text.toList.isEmpty = true := by rw [htl]; rfl
  replace htl := Lib.hid htl
  obtain ⟨xt, hxt⟩ : ∃ t, rdOf ByteArray.empty sc at_ = t := ⟨_, rfl⟩
  have te : xt.toList.isEmpty = true := by rw [← hxt]; exact he
  have tp1 : at_ < (sc.length : Int) := by have := hl0.out; omega
  have tp2 : at_ < (ss.length : Int) := by have := hl1.out; omega
  clear he
  replace hxt := Lib.hid hxt
  have tb : decide (0 ≤ b) = false := decide_eq_false (by omega)
  clear hb0
  replace hbs := Lib.hid hbs
  have hu30 := Tryz.underlying29
  have hu36 := Tryz.underlying31
  have hu27 := Tryz.underlying27
  have hu24 := Tryz.underlying24
  go_enter Tryz.func8, Tryz.ntmps8
  go_wp2_with (first | (go_at_call 21; go_must (refine (rebusref23_Check.calls (hP.below hx.out.2.2.2.2) (hS.below hx.out.2.2.2.2) hz hzs).mono ?_; rintro e w3 ⟨rfl, hb3⟩; rw [hck.out]; have D3 := Lib.hid (DoW.below (w := w) (⟨hx.out.1, hx.out.2.1, hx.out.2.2.1, hx.out.2.2.2.1, Kd.R_nil _ _ _ _ _, Kd.R_nil _ _ _ _ _, hx.out.2.2.2.2⟩ : DoW w _ _ _ _ _ (.slice none 0 0) (.slice none 0 0) [] []) hb3); clear hb3; have q := doFacts D3.out)) | (go_at_call 5; go_must (refine (rebusref23_Copied.calls (hS.below D3.out.bl) (by have := hl0.out; omega) (by have := hl1.out; omega)).mono ?_; rintro e w4 ⟨v0, v1, rfl, hr0, hr1, hb4⟩; obtain ⟨g0, k0, rfl⟩ := R_form_n hr0 (n := sc.length) rfl (by have := hl0.out; omega); obtain ⟨g1, k1, rfl⟩ := R_form_n hr1 (n := ss.length) rfl (by have := hl1.out; omega); have D4a := DoW.below D3.out hb4; have D4 := Lib.hid (⟨D4a.p, D4a.s, D4a.a, D4a.r, Kd.R_lower hr0 D3.out.bl.size, Kd.R_lower hr1 D3.out.bl.size, D4a.bl⟩ : DoW w w4 _ _ _ _ (.slice (some ⟨g0, 0, none⟩) sc.length k0) (.slice (some ⟨g1, 0, none⟩) ss.length k1) sc ss); clear q D4a hr0 hr1 hb4; have q := doFacts D4.out)) | ((with_reducible refine gate_dst (N := 9) rfl ?_); go_must (refine event_at (v := .pointer (some ⟨w4.heap.size, 0, none⟩)) (w1 := w4.alloc (.cells #[.slice none 0 0, .slice none 0 0, .int .i64 0, .bool false] 29)) (by rfl) ?hr ?_; (case hr => first | (go_simp; done) | (go_simp; rfl)); have T5 := Lib.hid (RdW.mk (⟨blk_alloc D4.out.p _, blk_alloc D4.out.s _, blk_alloc D4.out.a _, blk_alloc D4.out.r _, Kd.R_alloc D4.out.x _, Kd.R_alloc D4.out.b _, below_alloc D4.out.bl _⟩ : DoW w (w4.alloc (.cells #[.slice none 0 0, .slice none 0 0, .int .i64 0, .bool false] 29)) _ _ _ _ (.slice (some ⟨g0, 0, none⟩) sc.length k0) (.slice (some ⟨g1, 0, none⟩) ss.length k1) sc ss) (blk_new w4 _) (blk_lt D4.out.r)); generalize w4.alloc (.cells #[.slice none 0 0, .slice none 0 0, .int .i64 0, .bool false] 29) = w5 at T5 ⊢; generalize w4.heap.size = bt at T5 ⊢; clear q D4; have q := And.intro (doFacts T5.out.d) (And.intro (cells4 T5.out.t) (frozen4 T5.out.t)))) | ((with_reducible refine gate_store (t := 29) (p := 9) (v := .tmp 52) rfl ?_); go_must (refine store_event (w1 := put4 w5 bt (.slice (some ⟨g0, 0, none⟩) sc.length k0) (.slice (some ⟨g1, 0, none⟩) ss.length k1) (.int .i64 at_) (.bool dn)) (by rfl) (by rfl) (by rfl) ?hr ?_; (case hr => first | (go_simp; done) | (go_simp; rfl)); intro w6 hw6; have Fw6 := put4_facts T5.out.t (.slice (some ⟨g0, 0, none⟩) sc.length k0) (.slice (some ⟨g1, 0, none⟩) ss.length k1) (.int .i64 at_) (.bool dn); rw [← hw6] at Fw6; have T6 := Lib.hid (T5.out.putT Fw6); clear hw6 Fw6 q; have q := And.intro (doFacts T6.out.d) (And.intro (cells4 T6.out.t) (frozen4 T6.out.t)); obtain ⟨_, eX, zx6⟩ := Kd.at_string (Kd.R_reads' T6.out.d.x).2.2 at_ ha0 tp1; cases eX; rw [add_plain, hxt.out] at zx6)) | (go_at_call 24; go_must (refine (rebusref23_beside.calls (hP.below T6.out.d.bl) hgc.out (by decide)).mono ?_; rintro e w7 ⟨rfl, hb⟩; rw [hbs.out]; have T7 := Lib.hid (T6.out.below hb); clear hb q; have q := And.intro (doFacts T7.out.d) (And.intro (cells4 T7.out.t) (frozen4 T7.out.t)))))
  clear zx6
  have sp0 := T7.out.spotX at_ ha0 (by have := hl0.out; omega)
  have sp1 := T7.out.spotB at_ ha0 (by have := hl1.out; omega)
  have sp2 := (T7.out.setX at_ (⟨#[]⟩)).spotB at_ ha0 (by have := hl1.out; omega)
  have sp3 := And.intro (doFacts (T7.out.setX at_ (⟨#[]⟩)).drew.d) (cells4 (T7.out.setX at_ (⟨#[]⟩)).drew.t)
  have T8 := Lib.hid (T7.out.set2 at_ (⟨#[]⟩) false)
  go_region
  generalize ((w7.setCell ⟨g0, (at_).toNat, none⟩ (.string (⟨#[]⟩))).setCell ⟨g1, (at_).toNat, none⟩ (.bool false)).drew = w8 at T8 ⊢
  clear sp0 sp1 sp2 sp3 q
  have q := And.intro (doFacts T8.out.d) (And.intro (cells4 T8.out.t) (frozen4 T8.out.t))
  go_wp2_with (first | ((with_reducible refine gate_store (t := 29) (p := 6) (v := .tmp 205) rfl ?_); go_must (refine store_event (w1 := put4 w8 (w.heap.size + 1 + 1 + 1) (.slice (some ⟨g0, 0, none⟩) sc.length k0) (.slice (some ⟨g1, 0, none⟩) ss.length k1) (.int .i64 at_) (.bool dn)) (by rfl) (by rfl) (by rfl) ?hr ?_; (case hr => first | (go_simp; done) | (go_simp; rfl)); intro w9 hw9; have Fw9 := put4_facts T8.out.d.r (.slice (some ⟨g0, 0, none⟩) sc.length k0) (.slice (some ⟨g1, 0, none⟩) ss.length k1) (.int .i64 at_) (.bool dn); rw [← hw9] at Fw9; have T9 := Lib.hid (T8.out.putR Fw9); clear hw9 Fw9 q)))
  refine bodyPost_ret (results_ct rfl _ _ (w.heap.size + 1 + 1 + 1) 29 #[.slice (some ⟨g0, 0, none⟩) sc.length k0, .slice (some ⟨g1, 0, none⟩) ss.length k1, .int .i64 at_, .bool dn] (0, 0) _ rfl T9.out.d.r Tryz.underlying29 rfl (by kernel_rfl)) rfl ?_
  exact ⟨_, _, rfl, T9.out.d.x, T9.out.d.b, T9.out.d.bl⟩
set_option maxHeartbeats 8000000 in
set_option maxRecDepth 1000000 in
theorem rdo_wipe_back {text : ByteArray} {w : World} (hP : PuzR A2 c2 bl A3 c3 ri A4 c4 be A5 c5 cells A6 c6 clues w) (hS : ShtR A7 c7 sc A8 c8 ss w) (hz : PuzS title cells clues) (hzs : Small sc) (h0 : scheck title H W bl ri be cells clues sc ss at_ = 0) (htl : text.toList = []) (he : emptyAt sc at_ = true) {b : Int} (hbs : besideOf H W bl ri be at_ dn (-1) = b) (hb0 : 0 ≤ b) (hb1 : b < bl.length) :
    Calls Tryz.prog 8 #[.agg #[.string title, .int .i64 H, .int .i64 W, .slice A2 bl.length c2, .slice A3 ri.length c3, .slice A4 be.length c4, .slice A5 cells.length c5, .slice A6 clues.length c6], .agg #[.slice A7 sc.length c7, .slice A8 ss.length c8, .int .i64 at_, .bool dn], .agg #[.int .i64 2, .int .i64 0, .string text]] w (DoPost w (sc.set b.toNat ⟨#[]⟩, ss.set b.toNat false, b, dn, 0)) := by
  have hck := h0
  obtain ⟨hgc, hl0, hl1, hl2, ha0, ha1, hpos, h256⟩ := scheck_grid h0
  replace hck := Lib.hid hck
  replace hgc := Lib.hid hgc
  replace hl0 := Lib.hid hl0
  replace hl1 := Lib.hid hl1
  replace hl2 := Lib.hid hl2
  clear h0
  have hx := box4 w (.cells #[.string title, .int .i64 H, .int .i64 W, .slice A2 bl.length c2, .slice A3 ri.length c3, .slice A4 be.length c4, .slice A5 cells.length c5, .slice A6 clues.length c6] 27) (.cells #[.slice A7 sc.length c7, .slice A8 ss.length c8, .int .i64 at_, .bool dn] 29) (.cells #[.int .i64 2, .int .i64 0, .string text] 31) (.cells #[.slice none 0 0, .slice none 0 0, .int .i64 0, .bool false] 29)
  replace hx := Lib.hid hx
  have e4 : text.toList.isEmpty = true := by rw [htl]; rfl
  replace htl := Lib.hid htl
  obtain ⟨xt, hxt⟩ : ∃ t, rdOf ByteArray.empty sc at_ = t := ⟨_, rfl⟩
  have te : xt.toList.isEmpty = true := by rw [← hxt]; exact he
  have tp1 : at_ < (sc.length : Int) := by have := hl0.out; omega
  have tp2 : at_ < (ss.length : Int) := by have := hl1.out; omega
  clear he
  replace hxt := Lib.hid hxt
  have tb : decide (0 ≤ b) = true := decide_eq_true hb0
  have tb1 : b < (sc.length : Int) := by have := hl0.out; omega
  have tb2 : b < (ss.length : Int) := by have := hl1.out; omega
  replace hbs := Lib.hid hbs
  have hu30 := Tryz.underlying29
  have hu36 := Tryz.underlying31
  have hu27 := Tryz.underlying27
  have hu24 := Tryz.underlying24
  go_enter Tryz.func8, Tryz.ntmps8
  go_wp2_with (first | (go_at_call 21; go_must (refine (rebusref23_Check.calls (hP.below hx.out.2.2.2.2) (hS.below hx.out.2.2.2.2) hz hzs).mono ?_; rintro e w3 ⟨rfl, hb3⟩; rw [hck.out]; have D3 := Lib.hid (DoW.below (w := w) (⟨hx.out.1, hx.out.2.1, hx.out.2.2.1, hx.out.2.2.2.1, Kd.R_nil _ _ _ _ _, Kd.R_nil _ _ _ _ _, hx.out.2.2.2.2⟩ : DoW w _ _ _ _ _ (.slice none 0 0) (.slice none 0 0) [] []) hb3); clear hb3; have q := doFacts D3.out)) | (go_at_call 5; go_must (refine (rebusref23_Copied.calls (hS.below D3.out.bl) (by have := hl0.out; omega) (by have := hl1.out; omega)).mono ?_; rintro e w4 ⟨v0, v1, rfl, hr0, hr1, hb4⟩; obtain ⟨g0, k0, rfl⟩ := R_form_n hr0 (n := sc.length) rfl (by have := hl0.out; omega); obtain ⟨g1, k1, rfl⟩ := R_form_n hr1 (n := ss.length) rfl (by have := hl1.out; omega); have D4a := DoW.below D3.out hb4; have D4 := Lib.hid (⟨D4a.p, D4a.s, D4a.a, D4a.r, Kd.R_lower hr0 D3.out.bl.size, Kd.R_lower hr1 D3.out.bl.size, D4a.bl⟩ : DoW w w4 _ _ _ _ (.slice (some ⟨g0, 0, none⟩) sc.length k0) (.slice (some ⟨g1, 0, none⟩) ss.length k1) sc ss); clear q D4a hr0 hr1 hb4; have q := doFacts D4.out)) | ((with_reducible refine gate_dst (N := 9) rfl ?_); go_must (refine event_at (v := .pointer (some ⟨w4.heap.size, 0, none⟩)) (w1 := w4.alloc (.cells #[.slice none 0 0, .slice none 0 0, .int .i64 0, .bool false] 29)) (by rfl) ?hr ?_; (case hr => first | (go_simp; done) | (go_simp; rfl)); have T5 := Lib.hid (RdW.mk (⟨blk_alloc D4.out.p _, blk_alloc D4.out.s _, blk_alloc D4.out.a _, blk_alloc D4.out.r _, Kd.R_alloc D4.out.x _, Kd.R_alloc D4.out.b _, below_alloc D4.out.bl _⟩ : DoW w (w4.alloc (.cells #[.slice none 0 0, .slice none 0 0, .int .i64 0, .bool false] 29)) _ _ _ _ (.slice (some ⟨g0, 0, none⟩) sc.length k0) (.slice (some ⟨g1, 0, none⟩) ss.length k1) sc ss) (blk_new w4 _) (blk_lt D4.out.r)); generalize w4.alloc (.cells #[.slice none 0 0, .slice none 0 0, .int .i64 0, .bool false] 29) = w5 at T5 ⊢; generalize w4.heap.size = bt at T5 ⊢; clear q D4; have q := And.intro (doFacts T5.out.d) (And.intro (cells4 T5.out.t) (frozen4 T5.out.t)))) | ((with_reducible refine gate_store (t := 29) (p := 9) (v := .tmp 52) rfl ?_); go_must (refine store_event (w1 := put4 w5 bt (.slice (some ⟨g0, 0, none⟩) sc.length k0) (.slice (some ⟨g1, 0, none⟩) ss.length k1) (.int .i64 at_) (.bool dn)) (by rfl) (by rfl) (by rfl) ?hr ?_; (case hr => first | (go_simp; done) | (go_simp; rfl)); intro w6 hw6; have Fw6 := put4_facts T5.out.t (.slice (some ⟨g0, 0, none⟩) sc.length k0) (.slice (some ⟨g1, 0, none⟩) ss.length k1) (.int .i64 at_) (.bool dn); rw [← hw6] at Fw6; have T6 := Lib.hid (T5.out.putT Fw6); clear hw6 Fw6 q; have q := And.intro (doFacts T6.out.d) (And.intro (cells4 T6.out.t) (frozen4 T6.out.t)); obtain ⟨_, eX, zx6⟩ := Kd.at_string (Kd.R_reads' T6.out.d.x).2.2 at_ ha0 tp1; cases eX; rw [add_plain, hxt.out] at zx6)) | (go_at_call 24; go_must (refine (rebusref23_beside.calls (hP.below T6.out.d.bl) hgc.out (by decide)).mono ?_; rintro e w7 ⟨rfl, hb⟩; rw [hbs.out]; have T7 := Lib.hid (T6.out.below hb); clear hb q; have q := And.intro (doFacts T7.out.d) (And.intro (cells4 T7.out.t) (frozen4 T7.out.t)))) | ((with_reducible refine gate_store (t := 3) (p := 102) (v := .tmp 101) rfl ?_); go_must (refine store_event (w1 := w7.setCell ⟨bt, 2, none⟩ (.int .i64 b)) (by rfl) (by rfl) (by rfl) ?hr ?_; (case hr => first | (go_simp; done) | (go_simp; rfl)); intro w8 hw8; have Fw8 := one_facts (cs' := #[.slice (some ⟨g0, 0, none⟩) sc.length k0, .slice (some ⟨g1, 0, none⟩) ss.length k1, .int .i64 b, .bool dn]) (i := 2) T7.out.t (.int .i64 b) rfl; rw [← hw8] at Fw8; have T8 := Lib.hid (T7.out.putT Fw8); clear hw8 Fw8 q; have q := And.intro (doFacts T8.out.d) (And.intro (cells4 T8.out.t) (frozen4 T8.out.t)))))
  clear zx6
  have sp0 := T8.out.spotX b hb0 tb1
  have sp1 := T8.out.spotB b hb0 tb2
  have sp2 := (T8.out.setX b (⟨#[]⟩)).spotB b hb0 tb2
  have sp3 := And.intro (doFacts (T8.out.setX b (⟨#[]⟩)).drew.d) (cells4 (T8.out.setX b (⟨#[]⟩)).drew.t)
  have Ta := Lib.hid (T8.out.set2 b (⟨#[]⟩) false)
  go_region
  generalize ((w8.setCell ⟨g0, (b).toNat, none⟩ (.string (⟨#[]⟩))).setCell ⟨g1, (b).toNat, none⟩ (.bool false)).drew = wa at Ta ⊢
  clear sp0 sp1 sp2 sp3 q
  have q := And.intro (doFacts Ta.out.d) (And.intro (cells4 Ta.out.t) (frozen4 Ta.out.t))
  go_wp2_with (first | ((with_reducible refine gate_store (t := 29) (p := 6) (v := .tmp 205) rfl ?_); go_must (refine store_event (w1 := put4 wa (w.heap.size + 1 + 1 + 1) (.slice (some ⟨g0, 0, none⟩) sc.length k0) (.slice (some ⟨g1, 0, none⟩) ss.length k1) (.int .i64 b) (.bool dn)) (by rfl) (by rfl) (by rfl) ?hr ?_; (case hr => first | (go_simp; done) | (go_simp; rfl)); intro w9 hw9; have Fw9 := put4_facts Ta.out.d.r (.slice (some ⟨g0, 0, none⟩) sc.length k0) (.slice (some ⟨g1, 0, none⟩) ss.length k1) (.int .i64 b) (.bool dn); rw [← hw9] at Fw9; have T9 := Lib.hid (Ta.out.putR Fw9); clear hw9 Fw9 q)))
  refine bodyPost_ret (results_ct rfl _ _ (w.heap.size + 1 + 1 + 1) 29 #[.slice (some ⟨g0, 0, none⟩) sc.length k0, .slice (some ⟨g1, 0, none⟩) ss.length k1, .int .i64 b, .bool dn] (0, 0) _ rfl T9.out.d.r Tryz.underlying29 rfl (by kernel_rfl)) rfl ?_
  exact ⟨_, _, rfl, T9.out.d.x, T9.out.d.b, T9.out.d.bl⟩
set_option maxHeartbeats 8000000 in
set_option maxRecDepth 1000000 in
theorem rdo_type_few {text : ByteArray} {w : World} (hP : PuzR A2 c2 bl A3 c3 ri A4 c4 be A5 c5 cells A6 c6 clues w) (hS : ShtR A7 c7 sc A8 c8 ss w) (hz : PuzS title cells clues) (hzs : Small sc) (h0 : scheck title H W bl ri be cells clues sc ss at_ = 0) (hzt : text.size ≤ 1048576) (hcnt : (ucount (ufold text false) : Int) < 1) :
    Calls Tryz.prog 8 #[.agg #[.string title, .int .i64 H, .int .i64 W, .slice A2 bl.length c2, .slice A3 ri.length c3, .slice A4 be.length c4, .slice A5 cells.length c5, .slice A6 clues.length c6], .agg #[.slice A7 sc.length c7, .slice A8 ss.length c8, .int .i64 at_, .bool dn], .agg #[.int .i64 1, .int .i64 0, .string text]] w (DoPost w (doErr 33)) := by
  have hck := h0
  obtain ⟨hgc, hl0, hl1, hl2, ha0, ha1, hpos, h256⟩ := scheck_grid h0
  replace hck := Lib.hid hck
  replace hgc := Lib.hid hgc
  replace hl0 := Lib.hid hl0
  replace hl1 := Lib.hid hl1
  replace hl2 := Lib.hid hl2
  clear h0
  have hx := box4 w (.cells #[.string title, .int .i64 H, .int .i64 W, .slice A2 bl.length c2, .slice A3 ri.length c3, .slice A4 be.length c4, .slice A5 cells.length c5, .slice A6 clues.length c6] 27) (.cells #[.slice A7 sc.length c7, .slice A8 ss.length c8, .int .i64 at_, .bool dn] 29) (.cells #[.int .i64 1, .int .i64 0, .string text] 31) (.cells #[.slice none 0 0, .slice none 0 0, .int .i64 0, .bool false] 29)
  replace hx := Lib.hid hx
  obtain ⟨F, hF⟩ : ∃ F, ufold text false = F := ⟨_, rfl⟩
  have hFs : F.size ≤ 8388608 := by rw [← hF]; have := ufold_size text false; omega
  obtain ⟨n, hn⟩ : ∃ n : Int, (ucount F : Int) = n := ⟨_, rfl⟩
  rw [hF, hn] at hcnt
  have t1 : decide (n < 1) = true := decide_eq_true hcnt
  clear hcnt
  replace hF := Lib.hid hF
  replace hFs := Lib.hid hFs
  replace hn := Lib.hid hn
  have hu30 := Tryz.underlying29
  have hu36 := Tryz.underlying31
  have hu27 := Tryz.underlying27
  have hu24 := Tryz.underlying24
  go_enter Tryz.func8, Tryz.ntmps8
  go_wp2_with (first | (go_at_call 21; go_must (refine (rebusref23_Check.calls (hP.below hx.out.2.2.2.2) (hS.below hx.out.2.2.2.2) hz hzs).mono ?_; rintro e w3 ⟨rfl, hb3⟩; rw [hck.out]; have D3 := Lib.hid (DoW.below (w := w) (⟨hx.out.1, hx.out.2.1, hx.out.2.2.1, hx.out.2.2.2.1, Kd.R_nil _ _ _ _ _, Kd.R_nil _ _ _ _ _, hx.out.2.2.2.2⟩ : DoW w _ _ _ _ _ (.slice none 0 0) (.slice none 0 0) [] []) hb3); clear hb3; have q := doFacts D3.out)) | (go_at_call 5; go_must (refine (rebusref23_Copied.calls (hS.below D3.out.bl) (by have := hl0.out; omega) (by have := hl1.out; omega)).mono ?_; rintro e w4 ⟨v0, v1, rfl, hr0, hr1, hb4⟩; obtain ⟨g0, k0, rfl⟩ := R_form_n hr0 (n := sc.length) rfl (by have := hl0.out; omega); obtain ⟨g1, k1, rfl⟩ := R_form_n hr1 (n := ss.length) rfl (by have := hl1.out; omega); have D4a := DoW.below D3.out hb4; have D4 := Lib.hid (⟨D4a.p, D4a.s, D4a.a, D4a.r, Kd.R_lower hr0 D3.out.bl.size, Kd.R_lower hr1 D3.out.bl.size, D4a.bl⟩ : DoW w w4 _ _ _ _ (.slice (some ⟨g0, 0, none⟩) sc.length k0) (.slice (some ⟨g1, 0, none⟩) ss.length k1) sc ss); clear q D4a hr0 hr1 hb4; have q := doFacts D4.out)) | ((with_reducible refine gate_dst (N := 9) rfl ?_); go_must (refine event_at (v := .pointer (some ⟨w4.heap.size, 0, none⟩)) (w1 := w4.alloc (.cells #[.slice none 0 0, .slice none 0 0, .int .i64 0, .bool false] 29)) (by rfl) ?hr ?_; (case hr => first | (go_simp; done) | (go_simp; rfl)); have T5 := Lib.hid (RdW.mk (⟨blk_alloc D4.out.p _, blk_alloc D4.out.s _, blk_alloc D4.out.a _, blk_alloc D4.out.r _, Kd.R_alloc D4.out.x _, Kd.R_alloc D4.out.b _, below_alloc D4.out.bl _⟩ : DoW w (w4.alloc (.cells #[.slice none 0 0, .slice none 0 0, .int .i64 0, .bool false] 29)) _ _ _ _ (.slice (some ⟨g0, 0, none⟩) sc.length k0) (.slice (some ⟨g1, 0, none⟩) ss.length k1) sc ss) (blk_new w4 _) (blk_lt D4.out.r)); generalize w4.alloc (.cells #[.slice none 0 0, .slice none 0 0, .int .i64 0, .bool false] 29) = w5 at T5 ⊢; generalize w4.heap.size = bt at T5 ⊢; clear q D4; have q := And.intro (doFacts T5.out.d) (And.intro (cells4 T5.out.t) (frozen4 T5.out.t)))) | ((with_reducible refine gate_store (t := 29) (p := 9) (v := .tmp 52) rfl ?_); go_must (refine store_event (w1 := put4 w5 bt (.slice (some ⟨g0, 0, none⟩) sc.length k0) (.slice (some ⟨g1, 0, none⟩) ss.length k1) (.int .i64 at_) (.bool dn)) (by rfl) (by rfl) (by rfl) ?hr ?_; (case hr => first | (go_simp; done) | (go_simp; rfl)); intro w6 hw6; have Fw6 := put4_facts T5.out.t (.slice (some ⟨g0, 0, none⟩) sc.length k0) (.slice (some ⟨g1, 0, none⟩) ss.length k1) (.int .i64 at_) (.bool dn); rw [← hw6] at Fw6; have T6 := Lib.hid (T5.out.putT Fw6); clear hw6 Fw6 q; have q := And.intro (doFacts T6.out.d) (And.intro (cells4 T6.out.t) (frozen4 T6.out.t)))) | (go_at_call 22; go_must (refine (rebusref02_Fold.calls text hzt _).mono ?_; rintro e w7 ⟨rfl, hb⟩; rw [hF.out]; have T7 := Lib.hid (T6.out.below hb); clear hb q; have q := And.intro (doFacts T7.out.d) (And.intro (cells4 T7.out.t) (frozen4 T7.out.t)))) | (go_at_call 23; go_must (refine (count_calls F hFs.out _).mono ?_; rintro e w8 ⟨rfl, hb⟩; rw [hn.out]; have T8 := Lib.hid (T7.out.below hb); clear hb q; have q := And.intro (doFacts T8.out.d) (And.intro (cells4 T8.out.t) (frozen4 T8.out.t)))) | ((with_reducible refine gate_store (t := 29) (p := 6) (v := .tmp 68) rfl ?_); go_must (refine store_event (w1 := put4 w8 (w.heap.size + 1 + 1 + 1) (.slice none 0 0) (.slice none 0 0) (.int .i64 0) (.bool false)) (by rfl) (by rfl) (by rfl) ?hr ?_; (case hr => first | (go_simp; done) | (go_simp; rfl)); intro w9 hw9; have Fw9 := put4_facts T8.out.d.r (.slice none 0 0) (.slice none 0 0) (.int .i64 0) (.bool false); rw [← hw9] at Fw9; have T9 := Lib.hid (T8.out.putR Fw9); clear hw9 Fw9 q)))
  refine bodyPost_ret (results_ct rfl _ _ (w.heap.size + 1 + 1 + 1) 29 #[.slice none 0 0, .slice none 0 0, .int .i64 0, .bool false] (0, 0) _ rfl T9.out.d.r Tryz.underlying29 rfl (by kernel_rfl)) rfl ?_
  exact DoPost.err T9.out.d.bl
set_option maxHeartbeats 8000000 in
set_option maxRecDepth 1000000 in
theorem rdo_type_many {text : ByteArray} {w : World} (hP : PuzR A2 c2 bl A3 c3 ri A4 c4 be A5 c5 cells A6 c6 clues w) (hS : ShtR A7 c7 sc A8 c8 ss w) (hz : PuzS title cells clues) (hzs : Small sc) (h0 : scheck title H W bl ri be cells clues sc ss at_ = 0) (hzt : text.size ≤ 1048576) (hcnt : 3 < (ucount (ufold text false) : Int)) :
    Calls Tryz.prog 8 #[.agg #[.string title, .int .i64 H, .int .i64 W, .slice A2 bl.length c2, .slice A3 ri.length c3, .slice A4 be.length c4, .slice A5 cells.length c5, .slice A6 clues.length c6], .agg #[.slice A7 sc.length c7, .slice A8 ss.length c8, .int .i64 at_, .bool dn], .agg #[.int .i64 1, .int .i64 0, .string text]] w (DoPost w (doErr 33)) := by
  have hck := h0
  obtain ⟨hgc, hl0, hl1, hl2, ha0, ha1, hpos, h256⟩ := scheck_grid h0
  replace hck := Lib.hid hck
  replace hgc := Lib.hid hgc
  replace hl0 := Lib.hid hl0
  replace hl1 := Lib.hid hl1
  replace hl2 := Lib.hid hl2
  clear h0
  have hx := box4 w (.cells #[.string title, .int .i64 H, .int .i64 W, .slice A2 bl.length c2, .slice A3 ri.length c3, .slice A4 be.length c4, .slice A5 cells.length c5, .slice A6 clues.length c6] 27) (.cells #[.slice A7 sc.length c7, .slice A8 ss.length c8, .int .i64 at_, .bool dn] 29) (.cells #[.int .i64 1, .int .i64 0, .string text] 31) (.cells #[.slice none 0 0, .slice none 0 0, .int .i64 0, .bool false] 29)
  replace hx := Lib.hid hx
  obtain ⟨F, hF⟩ : ∃ F, ufold text false = F := ⟨_, rfl⟩
  have hFs : F.size ≤ 8388608 := by rw [← hF]; have := ufold_size text false; omega
  obtain ⟨n, hn⟩ : ∃ n : Int, (ucount F : Int) = n := ⟨_, rfl⟩
  rw [hF, hn] at hcnt
  have t1 : decide (n < 1) = false := decide_eq_false (by omega)
  have t2 : decide (3 < n) = true := decide_eq_true hcnt
  clear hcnt
  replace hF := Lib.hid hF
  replace hFs := Lib.hid hFs
  replace hn := Lib.hid hn
  have hu30 := Tryz.underlying29
  have hu36 := Tryz.underlying31
  have hu27 := Tryz.underlying27
  have hu24 := Tryz.underlying24
  go_enter Tryz.func8, Tryz.ntmps8
  go_wp2_with (first | (go_at_call 21; go_must (refine (rebusref23_Check.calls (hP.below hx.out.2.2.2.2) (hS.below hx.out.2.2.2.2) hz hzs).mono ?_; rintro e w3 ⟨rfl, hb3⟩; rw [hck.out]; have D3 := Lib.hid (DoW.below (w := w) (⟨hx.out.1, hx.out.2.1, hx.out.2.2.1, hx.out.2.2.2.1, Kd.R_nil _ _ _ _ _, Kd.R_nil _ _ _ _ _, hx.out.2.2.2.2⟩ : DoW w _ _ _ _ _ (.slice none 0 0) (.slice none 0 0) [] []) hb3); clear hb3; have q := doFacts D3.out)) | (go_at_call 5; go_must (refine (rebusref23_Copied.calls (hS.below D3.out.bl) (by have := hl0.out; omega) (by have := hl1.out; omega)).mono ?_; rintro e w4 ⟨v0, v1, rfl, hr0, hr1, hb4⟩; obtain ⟨g0, k0, rfl⟩ := R_form_n hr0 (n := sc.length) rfl (by have := hl0.out; omega); obtain ⟨g1, k1, rfl⟩ := R_form_n hr1 (n := ss.length) rfl (by have := hl1.out; omega); have D4a := DoW.below D3.out hb4; have D4 := Lib.hid (⟨D4a.p, D4a.s, D4a.a, D4a.r, Kd.R_lower hr0 D3.out.bl.size, Kd.R_lower hr1 D3.out.bl.size, D4a.bl⟩ : DoW w w4 _ _ _ _ (.slice (some ⟨g0, 0, none⟩) sc.length k0) (.slice (some ⟨g1, 0, none⟩) ss.length k1) sc ss); clear q D4a hr0 hr1 hb4; have q := doFacts D4.out)) | ((with_reducible refine gate_dst (N := 9) rfl ?_); go_must (refine event_at (v := .pointer (some ⟨w4.heap.size, 0, none⟩)) (w1 := w4.alloc (.cells #[.slice none 0 0, .slice none 0 0, .int .i64 0, .bool false] 29)) (by rfl) ?hr ?_; (case hr => first | (go_simp; done) | (go_simp; rfl)); have T5 := Lib.hid (RdW.mk (⟨blk_alloc D4.out.p _, blk_alloc D4.out.s _, blk_alloc D4.out.a _, blk_alloc D4.out.r _, Kd.R_alloc D4.out.x _, Kd.R_alloc D4.out.b _, below_alloc D4.out.bl _⟩ : DoW w (w4.alloc (.cells #[.slice none 0 0, .slice none 0 0, .int .i64 0, .bool false] 29)) _ _ _ _ (.slice (some ⟨g0, 0, none⟩) sc.length k0) (.slice (some ⟨g1, 0, none⟩) ss.length k1) sc ss) (blk_new w4 _) (blk_lt D4.out.r)); generalize w4.alloc (.cells #[.slice none 0 0, .slice none 0 0, .int .i64 0, .bool false] 29) = w5 at T5 ⊢; generalize w4.heap.size = bt at T5 ⊢; clear q D4; have q := And.intro (doFacts T5.out.d) (And.intro (cells4 T5.out.t) (frozen4 T5.out.t)))) | ((with_reducible refine gate_store (t := 29) (p := 9) (v := .tmp 52) rfl ?_); go_must (refine store_event (w1 := put4 w5 bt (.slice (some ⟨g0, 0, none⟩) sc.length k0) (.slice (some ⟨g1, 0, none⟩) ss.length k1) (.int .i64 at_) (.bool dn)) (by rfl) (by rfl) (by rfl) ?hr ?_; (case hr => first | (go_simp; done) | (go_simp; rfl)); intro w6 hw6; have Fw6 := put4_facts T5.out.t (.slice (some ⟨g0, 0, none⟩) sc.length k0) (.slice (some ⟨g1, 0, none⟩) ss.length k1) (.int .i64 at_) (.bool dn); rw [← hw6] at Fw6; have T6 := Lib.hid (T5.out.putT Fw6); clear hw6 Fw6 q; have q := And.intro (doFacts T6.out.d) (And.intro (cells4 T6.out.t) (frozen4 T6.out.t)))) | (go_at_call 22; go_must (refine (rebusref02_Fold.calls text hzt _).mono ?_; rintro e w7 ⟨rfl, hb⟩; rw [hF.out]; have T7 := Lib.hid (T6.out.below hb); clear hb q; have q := And.intro (doFacts T7.out.d) (And.intro (cells4 T7.out.t) (frozen4 T7.out.t)))) | (go_at_call 23; go_must (refine (count_calls F hFs.out _).mono ?_; rintro e w8 ⟨rfl, hb⟩; rw [hn.out]; have T8 := Lib.hid (T7.out.below hb); clear hb q; have q := And.intro (doFacts T8.out.d) (And.intro (cells4 T8.out.t) (frozen4 T8.out.t)))) | ((with_reducible refine gate_store (t := 29) (p := 6) (v := .tmp 68) rfl ?_); go_must (refine store_event (w1 := put4 w8 (w.heap.size + 1 + 1 + 1) (.slice none 0 0) (.slice none 0 0) (.int .i64 0) (.bool false)) (by rfl) (by rfl) (by rfl) ?hr ?_; (case hr => first | (go_simp; done) | (go_simp; rfl)); intro w9 hw9; have Fw9 := put4_facts T8.out.d.r (.slice none 0 0) (.slice none 0 0) (.int .i64 0) (.bool false); rw [← hw9] at Fw9; have T9 := Lib.hid (T8.out.putR Fw9); clear hw9 Fw9 q)))
  refine bodyPost_ret (results_ct rfl _ _ (w.heap.size + 1 + 1 + 1) 29 #[.slice none 0 0, .slice none 0 0, .int .i64 0, .bool false] (0, 0) _ rfl T9.out.d.r Tryz.underlying29 rfl (by kernel_rfl)) rfl ?_
  exact DoPost.err T9.out.d.bl
set_option maxHeartbeats 8000000 in
set_option maxRecDepth 1000000 in
theorem rdo_type_stay {text : ByteArray} {w : World} (hP : PuzR A2 c2 bl A3 c3 ri A4 c4 be A5 c5 cells A6 c6 clues w) (hS : ShtR A7 c7 sc A8 c8 ss w) (hz : PuzS title cells clues) (hzs : Small sc) (h0 : scheck title H W bl ri be cells clues sc ss at_ = 0) (hzt : text.size ≤ 1048576) (hcnt : 1 ≤ (ucount (ufold text false) : Int) ∧ (ucount (ufold text false) : Int) ≤ 3) {b : Int} (hbs : besideOf H W bl ri be at_ dn (1) = b) (hb0 : b < 0) :
    Calls Tryz.prog 8 #[.agg #[.string title, .int .i64 H, .int .i64 W, .slice A2 bl.length c2, .slice A3 ri.length c3, .slice A4 be.length c4, .slice A5 cells.length c5, .slice A6 clues.length c6], .agg #[.slice A7 sc.length c7, .slice A8 ss.length c8, .int .i64 at_, .bool dn], .agg #[.int .i64 1, .int .i64 0, .string text]] w (DoPost w (sc.set at_.toNat (ufold text false), ss.set at_.toNat true, at_, dn, 0)) := by
  have hck := h0
  obtain ⟨hgc, hl0, hl1, hl2, ha0, ha1, hpos, h256⟩ := scheck_grid h0
  replace hck := Lib.hid hck
  replace hgc := Lib.hid hgc
  replace hl0 := Lib.hid hl0
  replace hl1 := Lib.hid hl1
  replace hl2 := Lib.hid hl2
  clear h0
  have hx := box4 w (.cells #[.string title, .int .i64 H, .int .i64 W, .slice A2 bl.length c2, .slice A3 ri.length c3, .slice A4 be.length c4, .slice A5 cells.length c5, .slice A6 clues.length c6] 27) (.cells #[.slice A7 sc.length c7, .slice A8 ss.length c8, .int .i64 at_, .bool dn] 29) (.cells #[.int .i64 1, .int .i64 0, .string text] 31) (.cells #[.slice none 0 0, .slice none 0 0, .int .i64 0, .bool false] 29)
  replace hx := Lib.hid hx
  obtain ⟨F, hF⟩ : ∃ F, ufold text false = F := ⟨_, rfl⟩
  have hFs : F.size ≤ 8388608 := by rw [← hF]; have := ufold_size text false; omega
  obtain ⟨n, hn⟩ : ∃ n : Int, (ucount F : Int) = n := ⟨_, rfl⟩
  rw [hF, hn] at hcnt
  have t1 : decide (n < 1) = false := decide_eq_false (by omega)
  have t2 : decide (3 < n) = false := decide_eq_false (by omega)
  rw [hF]
  clear hcnt
  have tq1 : at_ < (sc.length : Int) := by have := hl0.out; omega
  have tq2 : at_ < (ss.length : Int) := by have := hl1.out; omega
  replace hF := Lib.hid hF
  replace hFs := Lib.hid hFs
  replace hn := Lib.hid hn
  have tb : decide (0 ≤ b) = false := decide_eq_false (by omega)
  clear hb0
  replace hbs := Lib.hid hbs
  have hu30 := Tryz.underlying29
  have hu36 := Tryz.underlying31
  have hu27 := Tryz.underlying27
  have hu24 := Tryz.underlying24
  go_enter Tryz.func8, Tryz.ntmps8
  go_wp2_with (first | (go_at_call 21; go_must (refine (rebusref23_Check.calls (hP.below hx.out.2.2.2.2) (hS.below hx.out.2.2.2.2) hz hzs).mono ?_; rintro e w3 ⟨rfl, hb3⟩; rw [hck.out]; have D3 := Lib.hid (DoW.below (w := w) (⟨hx.out.1, hx.out.2.1, hx.out.2.2.1, hx.out.2.2.2.1, Kd.R_nil _ _ _ _ _, Kd.R_nil _ _ _ _ _, hx.out.2.2.2.2⟩ : DoW w _ _ _ _ _ (.slice none 0 0) (.slice none 0 0) [] []) hb3); clear hb3; have q := doFacts D3.out)) | (go_at_call 5; go_must (refine (rebusref23_Copied.calls (hS.below D3.out.bl) (by have := hl0.out; omega) (by have := hl1.out; omega)).mono ?_; rintro e w4 ⟨v0, v1, rfl, hr0, hr1, hb4⟩; obtain ⟨g0, k0, rfl⟩ := R_form_n hr0 (n := sc.length) rfl (by have := hl0.out; omega); obtain ⟨g1, k1, rfl⟩ := R_form_n hr1 (n := ss.length) rfl (by have := hl1.out; omega); have D4a := DoW.below D3.out hb4; have D4 := Lib.hid (⟨D4a.p, D4a.s, D4a.a, D4a.r, Kd.R_lower hr0 D3.out.bl.size, Kd.R_lower hr1 D3.out.bl.size, D4a.bl⟩ : DoW w w4 _ _ _ _ (.slice (some ⟨g0, 0, none⟩) sc.length k0) (.slice (some ⟨g1, 0, none⟩) ss.length k1) sc ss); clear q D4a hr0 hr1 hb4; have q := doFacts D4.out)) | ((with_reducible refine gate_dst (N := 9) rfl ?_); go_must (refine event_at (v := .pointer (some ⟨w4.heap.size, 0, none⟩)) (w1 := w4.alloc (.cells #[.slice none 0 0, .slice none 0 0, .int .i64 0, .bool false] 29)) (by rfl) ?hr ?_; (case hr => first | (go_simp; done) | (go_simp; rfl)); have T5 := Lib.hid (RdW.mk (⟨blk_alloc D4.out.p _, blk_alloc D4.out.s _, blk_alloc D4.out.a _, blk_alloc D4.out.r _, Kd.R_alloc D4.out.x _, Kd.R_alloc D4.out.b _, below_alloc D4.out.bl _⟩ : DoW w (w4.alloc (.cells #[.slice none 0 0, .slice none 0 0, .int .i64 0, .bool false] 29)) _ _ _ _ (.slice (some ⟨g0, 0, none⟩) sc.length k0) (.slice (some ⟨g1, 0, none⟩) ss.length k1) sc ss) (blk_new w4 _) (blk_lt D4.out.r)); generalize w4.alloc (.cells #[.slice none 0 0, .slice none 0 0, .int .i64 0, .bool false] 29) = w5 at T5 ⊢; generalize w4.heap.size = bt at T5 ⊢; clear q D4; have q := And.intro (doFacts T5.out.d) (And.intro (cells4 T5.out.t) (frozen4 T5.out.t)))) | ((with_reducible refine gate_store (t := 29) (p := 9) (v := .tmp 52) rfl ?_); go_must (refine store_event (w1 := put4 w5 bt (.slice (some ⟨g0, 0, none⟩) sc.length k0) (.slice (some ⟨g1, 0, none⟩) ss.length k1) (.int .i64 at_) (.bool dn)) (by rfl) (by rfl) (by rfl) ?hr ?_; (case hr => first | (go_simp; done) | (go_simp; rfl)); intro w6 hw6; have Fw6 := put4_facts T5.out.t (.slice (some ⟨g0, 0, none⟩) sc.length k0) (.slice (some ⟨g1, 0, none⟩) ss.length k1) (.int .i64 at_) (.bool dn); rw [← hw6] at Fw6; have T6 := Lib.hid (T5.out.putT Fw6); clear hw6 Fw6 q; have q := And.intro (doFacts T6.out.d) (And.intro (cells4 T6.out.t) (frozen4 T6.out.t)))) | (go_at_call 22; go_must (refine (rebusref02_Fold.calls text hzt _).mono ?_; rintro e w7 ⟨rfl, hb⟩; rw [hF.out]; have T7 := Lib.hid (T6.out.below hb); clear hb q; have q := And.intro (doFacts T7.out.d) (And.intro (cells4 T7.out.t) (frozen4 T7.out.t)))) | (go_at_call 23; go_must (refine (count_calls F hFs.out _).mono ?_; rintro e w8 ⟨rfl, hb⟩; rw [hn.out]; have T8 := Lib.hid (T7.out.below hb); clear hb q; have q := And.intro (doFacts T8.out.d) (And.intro (cells4 T8.out.t) (frozen4 T8.out.t)))))
  have sp0 := T8.out.spotX at_ ha0 (by have := hl0.out; omega)
  have sp1 := T8.out.spotB at_ ha0 (by have := hl1.out; omega)
  have sp2 := (T8.out.setX at_ (F)).spotB at_ ha0 (by have := hl1.out; omega)
  have sp3 := And.intro (doFacts (T8.out.setX at_ (F)).drew.d) (cells4 (T8.out.setX at_ (F)).drew.t)
  have Tb := Lib.hid (T8.out.set2 at_ (F) true)
  go_region
  generalize ((w8.setCell ⟨g0, (at_).toNat, none⟩ (.string (F))).setCell ⟨g1, (at_).toNat, none⟩ (.bool true)).drew = wb at Tb ⊢
  clear sp0 sp1 sp2 sp3 q
  have q := And.intro (doFacts Tb.out.d) (And.intro (cells4 Tb.out.t) (frozen4 Tb.out.t))
  go_wp2_with (first | (go_at_call 24; go_must (refine (rebusref23_beside.calls (hP.below Tb.out.d.bl) hgc.out (by decide)).mono ?_; rintro e wc ⟨rfl, hb⟩; rw [hbs.out]; have Tc := Lib.hid (Tb.out.below hb); clear hb q; have q := And.intro (doFacts Tc.out.d) (And.intro (cells4 Tc.out.t) (frozen4 Tc.out.t)))) | ((with_reducible refine gate_store (t := 29) (p := 6) (v := .tmp 205) rfl ?_); go_must (refine store_event (w1 := put4 wc (w.heap.size + 1 + 1 + 1) (.slice (some ⟨g0, 0, none⟩) sc.length k0) (.slice (some ⟨g1, 0, none⟩) ss.length k1) (.int .i64 at_) (.bool dn)) (by rfl) (by rfl) (by rfl) ?hr ?_; (case hr => first | (go_simp; done) | (go_simp; rfl)); intro w9 hw9; have Fw9 := put4_facts Tc.out.d.r (.slice (some ⟨g0, 0, none⟩) sc.length k0) (.slice (some ⟨g1, 0, none⟩) ss.length k1) (.int .i64 at_) (.bool dn); rw [← hw9] at Fw9; have T9 := Lib.hid (Tc.out.putR Fw9); clear hw9 Fw9 q)))
  refine bodyPost_ret (results_ct rfl _ _ (w.heap.size + 1 + 1 + 1) 29 #[.slice (some ⟨g0, 0, none⟩) sc.length k0, .slice (some ⟨g1, 0, none⟩) ss.length k1, .int .i64 at_, .bool dn] (0, 0) _ rfl T9.out.d.r Tryz.underlying29 rfl (by kernel_rfl)) rfl ?_
  exact ⟨_, _, rfl, T9.out.d.x, T9.out.d.b, T9.out.d.bl⟩
set_option maxHeartbeats 8000000 in
set_option maxRecDepth 1000000 in
theorem rdo_type_on {text : ByteArray} {w : World} (hP : PuzR A2 c2 bl A3 c3 ri A4 c4 be A5 c5 cells A6 c6 clues w) (hS : ShtR A7 c7 sc A8 c8 ss w) (hz : PuzS title cells clues) (hzs : Small sc) (h0 : scheck title H W bl ri be cells clues sc ss at_ = 0) (hzt : text.size ≤ 1048576) (hcnt : 1 ≤ (ucount (ufold text false) : Int) ∧ (ucount (ufold text false) : Int) ≤ 3) {b : Int} (hbs : besideOf H W bl ri be at_ dn (1) = b) (hb0 : 0 ≤ b) :
    Calls Tryz.prog 8 #[.agg #[.string title, .int .i64 H, .int .i64 W, .slice A2 bl.length c2, .slice A3 ri.length c3, .slice A4 be.length c4, .slice A5 cells.length c5, .slice A6 clues.length c6], .agg #[.slice A7 sc.length c7, .slice A8 ss.length c8, .int .i64 at_, .bool dn], .agg #[.int .i64 1, .int .i64 0, .string text]] w (DoPost w (sc.set at_.toNat (ufold text false), ss.set at_.toNat true, b, dn, 0)) := by
  have hck := h0
  obtain ⟨hgc, hl0, hl1, hl2, ha0, ha1, hpos, h256⟩ := scheck_grid h0
  replace hck := Lib.hid hck
  replace hgc := Lib.hid hgc
  replace hl0 := Lib.hid hl0
  replace hl1 := Lib.hid hl1
  replace hl2 := Lib.hid hl2
  clear h0
  have hx := box4 w (.cells #[.string title, .int .i64 H, .int .i64 W, .slice A2 bl.length c2, .slice A3 ri.length c3, .slice A4 be.length c4, .slice A5 cells.length c5, .slice A6 clues.length c6] 27) (.cells #[.slice A7 sc.length c7, .slice A8 ss.length c8, .int .i64 at_, .bool dn] 29) (.cells #[.int .i64 1, .int .i64 0, .string text] 31) (.cells #[.slice none 0 0, .slice none 0 0, .int .i64 0, .bool false] 29)
  replace hx := Lib.hid hx
  obtain ⟨F, hF⟩ : ∃ F, ufold text false = F := ⟨_, rfl⟩
  have hFs : F.size ≤ 8388608 := by rw [← hF]; have := ufold_size text false; omega
  obtain ⟨n, hn⟩ : ∃ n : Int, (ucount F : Int) = n := ⟨_, rfl⟩
  rw [hF, hn] at hcnt
  have t1 : decide (n < 1) = false := decide_eq_false (by omega)
  have t2 : decide (3 < n) = false := decide_eq_false (by omega)
  rw [hF]
  clear hcnt
  have tq1 : at_ < (sc.length : Int) := by have := hl0.out; omega
  have tq2 : at_ < (ss.length : Int) := by have := hl1.out; omega
  replace hF := Lib.hid hF
  replace hFs := Lib.hid hFs
  replace hn := Lib.hid hn
  have tb : decide (0 ≤ b) = true := decide_eq_true hb0
  clear hb0
  replace hbs := Lib.hid hbs
  have hu30 := Tryz.underlying29
  have hu36 := Tryz.underlying31
  have hu27 := Tryz.underlying27
  have hu24 := Tryz.underlying24
  go_enter Tryz.func8, Tryz.ntmps8
  go_wp2_with (first | (go_at_call 21; go_must (refine (rebusref23_Check.calls (hP.below hx.out.2.2.2.2) (hS.below hx.out.2.2.2.2) hz hzs).mono ?_; rintro e w3 ⟨rfl, hb3⟩; rw [hck.out]; have D3 := Lib.hid (DoW.below (w := w) (⟨hx.out.1, hx.out.2.1, hx.out.2.2.1, hx.out.2.2.2.1, Kd.R_nil _ _ _ _ _, Kd.R_nil _ _ _ _ _, hx.out.2.2.2.2⟩ : DoW w _ _ _ _ _ (.slice none 0 0) (.slice none 0 0) [] []) hb3); clear hb3; have q := doFacts D3.out)) | (go_at_call 5; go_must (refine (rebusref23_Copied.calls (hS.below D3.out.bl) (by have := hl0.out; omega) (by have := hl1.out; omega)).mono ?_; rintro e w4 ⟨v0, v1, rfl, hr0, hr1, hb4⟩; obtain ⟨g0, k0, rfl⟩ := R_form_n hr0 (n := sc.length) rfl (by have := hl0.out; omega); obtain ⟨g1, k1, rfl⟩ := R_form_n hr1 (n := ss.length) rfl (by have := hl1.out; omega); have D4a := DoW.below D3.out hb4; have D4 := Lib.hid (⟨D4a.p, D4a.s, D4a.a, D4a.r, Kd.R_lower hr0 D3.out.bl.size, Kd.R_lower hr1 D3.out.bl.size, D4a.bl⟩ : DoW w w4 _ _ _ _ (.slice (some ⟨g0, 0, none⟩) sc.length k0) (.slice (some ⟨g1, 0, none⟩) ss.length k1) sc ss); clear q D4a hr0 hr1 hb4; have q := doFacts D4.out)) | ((with_reducible refine gate_dst (N := 9) rfl ?_); go_must (refine event_at (v := .pointer (some ⟨w4.heap.size, 0, none⟩)) (w1 := w4.alloc (.cells #[.slice none 0 0, .slice none 0 0, .int .i64 0, .bool false] 29)) (by rfl) ?hr ?_; (case hr => first | (go_simp; done) | (go_simp; rfl)); have T5 := Lib.hid (RdW.mk (⟨blk_alloc D4.out.p _, blk_alloc D4.out.s _, blk_alloc D4.out.a _, blk_alloc D4.out.r _, Kd.R_alloc D4.out.x _, Kd.R_alloc D4.out.b _, below_alloc D4.out.bl _⟩ : DoW w (w4.alloc (.cells #[.slice none 0 0, .slice none 0 0, .int .i64 0, .bool false] 29)) _ _ _ _ (.slice (some ⟨g0, 0, none⟩) sc.length k0) (.slice (some ⟨g1, 0, none⟩) ss.length k1) sc ss) (blk_new w4 _) (blk_lt D4.out.r)); generalize w4.alloc (.cells #[.slice none 0 0, .slice none 0 0, .int .i64 0, .bool false] 29) = w5 at T5 ⊢; generalize w4.heap.size = bt at T5 ⊢; clear q D4; have q := And.intro (doFacts T5.out.d) (And.intro (cells4 T5.out.t) (frozen4 T5.out.t)))) | ((with_reducible refine gate_store (t := 29) (p := 9) (v := .tmp 52) rfl ?_); go_must (refine store_event (w1 := put4 w5 bt (.slice (some ⟨g0, 0, none⟩) sc.length k0) (.slice (some ⟨g1, 0, none⟩) ss.length k1) (.int .i64 at_) (.bool dn)) (by rfl) (by rfl) (by rfl) ?hr ?_; (case hr => first | (go_simp; done) | (go_simp; rfl)); intro w6 hw6; have Fw6 := put4_facts T5.out.t (.slice (some ⟨g0, 0, none⟩) sc.length k0) (.slice (some ⟨g1, 0, none⟩) ss.length k1) (.int .i64 at_) (.bool dn); rw [← hw6] at Fw6; have T6 := Lib.hid (T5.out.putT Fw6); clear hw6 Fw6 q; have q := And.intro (doFacts T6.out.d) (And.intro (cells4 T6.out.t) (frozen4 T6.out.t)))) | (go_at_call 22; go_must (refine (rebusref02_Fold.calls text hzt _).mono ?_; rintro e w7 ⟨rfl, hb⟩; rw [hF.out]; have T7 := Lib.hid (T6.out.below hb); clear hb q; have q := And.intro (doFacts T7.out.d) (And.intro (cells4 T7.out.t) (frozen4 T7.out.t)))) | (go_at_call 23; go_must (refine (count_calls F hFs.out _).mono ?_; rintro e w8 ⟨rfl, hb⟩; rw [hn.out]; have T8 := Lib.hid (T7.out.below hb); clear hb q; have q := And.intro (doFacts T8.out.d) (And.intro (cells4 T8.out.t) (frozen4 T8.out.t)))))
  have sp0 := T8.out.spotX at_ ha0 (by have := hl0.out; omega)
  have sp1 := T8.out.spotB at_ ha0 (by have := hl1.out; omega)
  have sp2 := (T8.out.setX at_ (F)).spotB at_ ha0 (by have := hl1.out; omega)
  have sp3 := And.intro (doFacts (T8.out.setX at_ (F)).drew.d) (cells4 (T8.out.setX at_ (F)).drew.t)
  have Tb := Lib.hid (T8.out.set2 at_ (F) true)
  go_region
  generalize ((w8.setCell ⟨g0, (at_).toNat, none⟩ (.string (F))).setCell ⟨g1, (at_).toNat, none⟩ (.bool true)).drew = wb at Tb ⊢
  clear sp0 sp1 sp2 sp3 q
  have q := And.intro (doFacts Tb.out.d) (And.intro (cells4 Tb.out.t) (frozen4 Tb.out.t))
  go_wp2_with (first | (go_at_call 24; go_must (refine (rebusref23_beside.calls (hP.below Tb.out.d.bl) hgc.out (by decide)).mono ?_; rintro e wc ⟨rfl, hb⟩; rw [hbs.out]; have Tc := Lib.hid (Tb.out.below hb); clear hb q; have q := And.intro (doFacts Tc.out.d) (And.intro (cells4 Tc.out.t) (frozen4 Tc.out.t)))) | ((with_reducible refine gate_store (t := 3) (p := 86) (v := .tmp 85) rfl ?_); go_must (refine store_event (w1 := wc.setCell ⟨bt, 2, none⟩ (.int .i64 b)) (by rfl) (by rfl) (by rfl) ?hr ?_; (case hr => first | (go_simp; done) | (go_simp; rfl)); intro wd hwd; have Fwd := one_facts (cs' := #[.slice (some ⟨g0, 0, none⟩) sc.length k0, .slice (some ⟨g1, 0, none⟩) ss.length k1, .int .i64 b, .bool dn]) (i := 2) Tc.out.t (.int .i64 b) rfl; rw [← hwd] at Fwd; have Td := Lib.hid (Tc.out.putT Fwd); clear hwd Fwd q; have q := And.intro (doFacts Td.out.d) (And.intro (cells4 Td.out.t) (frozen4 Td.out.t)))) | ((with_reducible refine gate_store (t := 29) (p := 6) (v := .tmp 205) rfl ?_); go_must (refine store_event (w1 := put4 wd (w.heap.size + 1 + 1 + 1) (.slice (some ⟨g0, 0, none⟩) sc.length k0) (.slice (some ⟨g1, 0, none⟩) ss.length k1) (.int .i64 b) (.bool dn)) (by rfl) (by rfl) (by rfl) ?hr ?_; (case hr => first | (go_simp; done) | (go_simp; rfl)); intro w9 hw9; have Fw9 := put4_facts Td.out.d.r (.slice (some ⟨g0, 0, none⟩) sc.length k0) (.slice (some ⟨g1, 0, none⟩) ss.length k1) (.int .i64 b) (.bool dn); rw [← hw9] at Fw9; have T9 := Lib.hid (Td.out.putR Fw9); clear hw9 Fw9 q)))
  refine bodyPost_ret (results_ct rfl _ _ (w.heap.size + 1 + 1 + 1) 29 #[.slice (some ⟨g0, 0, none⟩) sc.length k0, .slice (some ⟨g1, 0, none⟩) ss.length k1, .int .i64 b, .bool dn] (0, 0) _ rfl T9.out.d.r Tryz.underlying29 rfl (by kernel_rfl)) rfl ?_
  exact ⟨_, _, rfl, T9.out.d.x, T9.out.d.b, T9.out.d.bl⟩
set_option maxHeartbeats 8000000 in
set_option maxRecDepth 1000000 in
theorem rdo_reveal {text : ByteArray} {w : World} (hP : PuzR A2 c2 bl A3 c3 ri A4 c4 be A5 c5 cells A6 c6 clues w) (hS : ShtR A7 c7 sc A8 c8 ss w) (hz : PuzS title cells clues) (hzs : Small sc) (h0 : scheck title H W bl ri be cells clues sc ss at_ = 0) (htl : text.toList = []) (he : emptyAt cells at_ = false) :
    Calls Tryz.prog 8 #[.agg #[.string title, .int .i64 H, .int .i64 W, .slice A2 bl.length c2, .slice A3 ri.length c3, .slice A4 be.length c4, .slice A5 cells.length c5, .slice A6 clues.length c6], .agg #[.slice A7 sc.length c7, .slice A8 ss.length c8, .int .i64 at_, .bool dn], .agg #[.int .i64 6, .int .i64 0, .string text]] w (DoPost w (sc.set at_.toNat (rdOf ByteArray.empty cells at_), ss.set at_.toNat true, at_, dn, 0)) := by
  have hck := h0
  obtain ⟨hgc, hl0, hl1, hl2, ha0, ha1, hpos, h256⟩ := scheck_grid h0
  replace hck := Lib.hid hck
  replace hgc := Lib.hid hgc
  replace hl0 := Lib.hid hl0
  replace hl1 := Lib.hid hl1
  replace hl2 := Lib.hid hl2
  clear h0
  have hx := box4 w (.cells #[.string title, .int .i64 H, .int .i64 W, .slice A2 bl.length c2, .slice A3 ri.length c3, .slice A4 be.length c4, .slice A5 cells.length c5, .slice A6 clues.length c6] 27) (.cells #[.slice A7 sc.length c7, .slice A8 ss.length c8, .int .i64 at_, .bool dn] 29) (.cells #[.int .i64 6, .int .i64 0, .string text] 31) (.cells #[.slice none 0 0, .slice none 0 0, .int .i64 0, .bool false] 29)
  replace hx := Lib.hid hx
  have e4 : text.toList.isEmpty = true := by rw [htl]; rfl
  replace htl := Lib.hid htl
  obtain ⟨adp, eA, zp⟩ := Kd.at_string hP.r5 at_ ha0 (by have := hl2.out; omega)
  cases eA
  obtain ⟨pt, hpt⟩ : ∃ t, rdOf ByteArray.empty cells at_ = t := ⟨_, rfl⟩
  rw [hpt] at zp
  have te : pt.toList.isEmpty = false := by rw [← hpt]; exact he
  have tp1 : at_ < (cells.length : Int) := by have := hl2.out; omega
  rw [hpt]
  clear he
  replace hpt := Lib.hid hpt
  replace zp := Lib.hid zp
  have tq1 : at_ < (sc.length : Int) := by have := hl0.out; omega
  have tq2 : at_ < (ss.length : Int) := by have := hl1.out; omega
  have hu30 := Tryz.underlying29
  have hu36 := Tryz.underlying31
  have hu27 := Tryz.underlying27
  have hu24 := Tryz.underlying24
  go_enter Tryz.func8, Tryz.ntmps8
  go_wp2_with (first | (go_at_call 21; go_must (refine (rebusref23_Check.calls (hP.below hx.out.2.2.2.2) (hS.below hx.out.2.2.2.2) hz hzs).mono ?_; rintro e w3 ⟨rfl, hb3⟩; rw [hck.out]; have D3 := Lib.hid (DoW.below (w := w) (⟨hx.out.1, hx.out.2.1, hx.out.2.2.1, hx.out.2.2.2.1, Kd.R_nil _ _ _ _ _, Kd.R_nil _ _ _ _ _, hx.out.2.2.2.2⟩ : DoW w _ _ _ _ _ (.slice none 0 0) (.slice none 0 0) [] []) hb3); clear hb3; have q := doFacts D3.out)) | (go_at_call 5; go_must (refine (rebusref23_Copied.calls (hS.below D3.out.bl) (by have := hl0.out; omega) (by have := hl1.out; omega)).mono ?_; rintro e w4 ⟨v0, v1, rfl, hr0, hr1, hb4⟩; obtain ⟨g0, k0, rfl⟩ := R_form_n hr0 (n := sc.length) rfl (by have := hl0.out; omega); obtain ⟨g1, k1, rfl⟩ := R_form_n hr1 (n := ss.length) rfl (by have := hl1.out; omega); have D4a := DoW.below D3.out hb4; have D4 := Lib.hid (⟨D4a.p, D4a.s, D4a.a, D4a.r, Kd.R_lower hr0 D3.out.bl.size, Kd.R_lower hr1 D3.out.bl.size, D4a.bl⟩ : DoW w w4 _ _ _ _ (.slice (some ⟨g0, 0, none⟩) sc.length k0) (.slice (some ⟨g1, 0, none⟩) ss.length k1) sc ss); clear q D4a hr0 hr1 hb4; have q := doFacts D4.out)) | ((with_reducible refine gate_dst (N := 9) rfl ?_); go_must (refine event_at (v := .pointer (some ⟨w4.heap.size, 0, none⟩)) (w1 := w4.alloc (.cells #[.slice none 0 0, .slice none 0 0, .int .i64 0, .bool false] 29)) (by rfl) ?hr ?_; (case hr => first | (go_simp; done) | (go_simp; rfl)); have T5 := Lib.hid (RdW.mk (⟨blk_alloc D4.out.p _, blk_alloc D4.out.s _, blk_alloc D4.out.a _, blk_alloc D4.out.r _, Kd.R_alloc D4.out.x _, Kd.R_alloc D4.out.b _, below_alloc D4.out.bl _⟩ : DoW w (w4.alloc (.cells #[.slice none 0 0, .slice none 0 0, .int .i64 0, .bool false] 29)) _ _ _ _ (.slice (some ⟨g0, 0, none⟩) sc.length k0) (.slice (some ⟨g1, 0, none⟩) ss.length k1) sc ss) (blk_new w4 _) (blk_lt D4.out.r)); generalize w4.alloc (.cells #[.slice none 0 0, .slice none 0 0, .int .i64 0, .bool false] 29) = w5 at T5 ⊢; generalize w4.heap.size = bt at T5 ⊢; clear q D4; have q := And.intro (doFacts T5.out.d) (And.intro (cells4 T5.out.t) (frozen4 T5.out.t)))) | ((with_reducible refine gate_store (t := 29) (p := 9) (v := .tmp 52) rfl ?_); go_must (refine store_event (w1 := put4 w5 bt (.slice (some ⟨g0, 0, none⟩) sc.length k0) (.slice (some ⟨g1, 0, none⟩) ss.length k1) (.int .i64 at_) (.bool dn)) (by rfl) (by rfl) (by rfl) ?hr ?_; (case hr => first | (go_simp; done) | (go_simp; rfl)); intro w6 hw6; have Fw6 := put4_facts T5.out.t (.slice (some ⟨g0, 0, none⟩) sc.length k0) (.slice (some ⟨g1, 0, none⟩) ss.length k1) (.int .i64 at_) (.bool dn); rw [← hw6] at Fw6; have T6 := Lib.hid (T5.out.putT Fw6); clear hw6 Fw6 q; have q := And.intro (doFacts T6.out.d) (And.intro (cells4 T6.out.t) (frozen4 T6.out.t)); have zp6 := pw_cell_below T6.out.d.bl zp.out)))
  have U6 := T6.out.drew
  have zp7 := zp6
  replace zp7 : w6.drew.cell? (adp.add at_.toNat) = some (.string pt) := zp7
  clear zp6 q
  have P6 := cells8 U6.d.p
  refine start_ (n := 18) (S := fun w' => ((w'.cell? ⟨w.heap.size, 6, none⟩ = some (.slice (some adp) cells.length c5) ∧ w'.cell? (adp.add at_.toNat) = some (.string pt)) ∧ (w'.cell? ⟨w.heap.size + 1, 2, none⟩ = some (.int .i64 at_))) ∧ (w'.cell? ⟨bt, 0, none⟩ = some (.slice (some ⟨g0, 0, none⟩) sc.length k0) ∧ w'.cell? ⟨bt, 1, none⟩ = some (.slice (some ⟨g1, 0, none⟩) ss.length k1) ∧ w'.cell? ⟨bt, 2, none⟩ = some (.int .i64 at_) ∧ w'.cell? ⟨bt, 3, none⟩ = some (.bool dn))) (ds := []) #[false, false, false, false, false, false, false, false, false, false, false, false, false, false, false, false, false, false] (by kernel_rfl) rfl rfl ⟨⟨⟨P6.2.2.2.2.2.2.1, zp7⟩, (cells4 U6.d.s).2.2.1⟩, cells4 U6.t⟩ (fun hHeld => ?_)
  generalize w6.drew = w7 at U6 zp7 P6 hHeld ⊢
  refine pure_ (i := 0) (N := some 172) (v := ?_) (a' := ?_) #[true, false, false, false, false, false, false, false, false, false, false, false, false, false, false, false, false, false] rfl rfl (by kernel_rfl) (fun _ _ _ h => h) (Or.inl ⟨by rfl, ?_⟩) ?_ ?_
  rotate_left
  · intro w'; go_simp; try with_reducible rfl
  rotate_left
  · simp only [Act.put, List.setIfInBounds_toArray, List.set_cons_zero, List.set_cons_succ, i64_w, i32_w]; rfl
  refine pure_ (i := 2) (N := some 174) (v := ?_) (a' := ?_) #[true, false, true, false, false, false, false, false, false, false, false, false, false, false, false, false, false, false] rfl rfl (by kernel_rfl) (fun _ _ _ h => h) (Or.inl ⟨by rfl, ?_⟩) ?_ ?_
  rotate_left
  · intro w'; go_simp; try with_reducible rfl
  rotate_left
  · simp only [Act.put, List.setIfInBounds_toArray, List.set_cons_zero, List.set_cons_succ, i64_w, i32_w]; rfl
  refine pure_ (i := 4) (N := some 176) (v := ?_) (a' := ?_) #[true, false, true, false, true, false, false, false, false, false, false, false, false, false, false, false, false, false] rfl rfl (by kernel_rfl) (fun _ _ _ h => h) (Or.inl ⟨by rfl, ?_⟩) ?_ ?_
  rotate_left
  · intro w'; go_simp; try with_reducible rfl
  rotate_left
  · simp only [Act.put, List.setIfInBounds_toArray, List.set_cons_zero, List.set_cons_succ, i64_w, i32_w]; rfl
  refine pure_ (i := 6) (N := some 178) (v := ?_) (a' := ?_) #[true, false, true, false, true, false, true, false, false, false, false, false, false, false, false, false, false, false] rfl rfl (by kernel_rfl) (fun _ _ _ h => h) (Or.inl ⟨by rfl, ?_⟩) ?_ ?_
  rotate_left
  · intro w'; go_simp; try with_reducible rfl
  rotate_left
  · simp only [Act.put, List.setIfInBounds_toArray, List.set_cons_zero, List.set_cons_succ, i64_w, i32_w]; rfl
  refine pure_ (i := 8) (N := some 180) (v := ?_) (a' := ?_) #[true, false, true, false, true, false, true, false, true, false, false, false, false, false, false, false, false, false] rfl rfl (by kernel_rfl) (fun _ _ _ h => h) (Or.inl ⟨by rfl, ?_⟩) ?_ ?_
  rotate_left
  · intro w'; go_simp; try with_reducible rfl
  rotate_left
  · simp only [Act.put, List.setIfInBounds_toArray, List.set_cons_zero, List.set_cons_succ, i64_w, i32_w]; rfl
  refine pure_ (i := 10) (N := some 182) (v := ?_) (a' := ?_) #[true, false, true, false, true, false, true, false, true, false, true, false, false, false, false, false, false, false] rfl rfl (by kernel_rfl) (fun _ _ _ h => h) (Or.inl ⟨by rfl, ?_⟩) ?_ ?_
  rotate_left
  · intro w'; go_simp; try with_reducible rfl
  rotate_left
  · simp only [Act.put, List.setIfInBounds_toArray, List.set_cons_zero, List.set_cons_succ, i64_w, i32_w]; rfl
  refine take_ (i := 1) (N := some 173) (v := ?_) (a' := ?_) #[true, true, true, false, true, false, true, false, true, false, true, false, false, false, false, false, false, false] rfl rfl (by kernel_rfl) (fun _ _ _ h => h) (Or.inl ⟨by rfl, ?_⟩) hHeld ?_ ?_
  rotate_left
  · intro w' s0; (try dsimp only at s0); obtain ⟨s1, s2⟩ := s0; go_simp; try with_reducible rfl
  rotate_left
  · simp only [Act.put, List.setIfInBounds_toArray, List.set_cons_zero, List.set_cons_succ, i64_w, i32_w]; rfl
  refine take_ (i := 3) (N := some 175) (v := ?_) (a' := ?_) #[true, true, true, true, true, false, true, false, true, false, true, false, false, false, false, false, false, false] rfl rfl (by kernel_rfl) (fun _ _ _ h => h) (Or.inl ⟨by rfl, ?_⟩) hHeld ?_ ?_
  rotate_left
  · intro w' s0; (try dsimp only at s0); obtain ⟨s1, s2⟩ := s0; go_simp; try with_reducible rfl
  rotate_left
  · simp only [Act.put, List.setIfInBounds_toArray, List.set_cons_zero, List.set_cons_succ, i64_w, i32_w]; rfl
  refine take_ (i := 9) (N := some 181) (v := ?_) (a' := ?_) #[true, true, true, true, true, false, true, false, true, true, true, false, false, false, false, false, false, false] rfl rfl (by kernel_rfl) (fun _ _ _ h => h) (Or.inl ⟨by rfl, ?_⟩) hHeld ?_ ?_
  rotate_left
  · intro w' s0; (try dsimp only at s0); obtain ⟨s1, s2⟩ := s0; go_simp; try with_reducible rfl
  rotate_left
  · simp only [Act.put, List.setIfInBounds_toArray, List.set_cons_zero, List.set_cons_succ, i64_w, i32_w]; rfl
  refine take_ (i := 11) (N := some 183) (v := ?_) (a' := ?_) #[true, true, true, true, true, false, true, false, true, true, true, true, false, false, false, false, false, false] rfl rfl (by kernel_rfl) (fun _ _ _ h => h) (Or.inl ⟨by rfl, ?_⟩) hHeld ?_ ?_
  rotate_left
  · intro w' s0; (try dsimp only at s0); obtain ⟨s1, s2⟩ := s0; go_simp; try with_reducible rfl
  rotate_left
  · simp only [Act.put, List.setIfInBounds_toArray, List.set_cons_zero, List.set_cons_succ, i64_w, i32_w]; rfl
  refine pure_ (i := 12) (N := some 184) (v := ?_) (a' := ?_) #[true, true, true, true, true, false, true, false, true, true, true, true, true, false, false, false, false, false] rfl rfl (by kernel_rfl) (fun _ _ _ h => h) (Or.inl ⟨by rfl, ?_⟩) ?_ ?_
  rotate_left
  · intro w'; go_simp; try with_reducible rfl
  rotate_left
  · simp only [Act.put, List.setIfInBounds_toArray, List.set_cons_zero, List.set_cons_succ, i64_w, i32_w]; rfl
  refine take_ (i := 13) (N := some 185) (v := ?_) (a' := ?_) #[true, true, true, true, true, false, true, false, true, true, true, true, true, true, false, false, false, false] rfl rfl (by kernel_rfl) (fun _ _ _ h => h) (Or.inl ⟨by rfl, ?_⟩) hHeld ?_ ?_
  rotate_left
  · intro w' s0; (try dsimp only at s0); obtain ⟨s1, s2⟩ := s0; go_simp; try with_reducible rfl
  rotate_left
  · simp only [Act.put, List.setIfInBounds_toArray, List.set_cons_zero, List.set_cons_succ, i64_w, i32_w]; rfl
  refine take_ (i := 5) (N := some 177) (v := ?_) (a' := ?_) #[true, true, true, true, true, true, true, false, true, true, true, true, true, true, false, false, false, false] rfl rfl (by kernel_rfl) (fun _ _ _ h => h) (Or.inl ⟨by rfl, ?_⟩) hHeld ?_ ?_
  rotate_left
  · intro w' s0; (try dsimp only at s0); obtain ⟨s1, s2⟩ := s0; go_simp; try with_reducible rfl
  rotate_left
  · simp only [Act.put, List.setIfInBounds_toArray, List.set_cons_zero, List.set_cons_succ, i64_w, i32_w]; rfl
  refine take_ (i := 7) (N := some 179) (v := ?_) (a' := ?_) #[true, true, true, true, true, true, true, true, true, true, true, true, true, true, false, false, false, false] rfl rfl (by kernel_rfl) (fun _ _ _ h => h) (Or.inl ⟨by rfl, ?_⟩) hHeld ?_ ?_
  rotate_left
  · intro w' s0; (try dsimp only at s0); obtain ⟨s1, s2⟩ := s0; go_simp; try with_reducible rfl
  rotate_left
  · simp only [Act.put, List.setIfInBounds_toArray, List.set_cons_zero, List.set_cons_succ, i64_w, i32_w]; rfl
  refine pure_ (i := 14) (N := some 186) (v := ?_) (a' := ?_) #[true, true, true, true, true, true, true, true, true, true, true, true, true, true, true, false, false, false] rfl rfl (by kernel_rfl) (fun _ _ _ h => h) (Or.inl ⟨by rfl, ?_⟩) ?_ ?_
  rotate_left
  · intro w'; go_simp; try with_reducible rfl
  rotate_left
  · simp only [Act.put, List.setIfInBounds_toArray, List.set_cons_zero, List.set_cons_succ, i64_w, i32_w]; rfl
  have sp0 : w7.cell? ⟨g0, at_.toNat, none⟩ = some (.string (rdOf ByteArray.empty sc at_)) ∧ w7.frozen? ⟨g0, at_.toNat, none⟩ = false := U6.spotX at_ ha0 tq1
  have V6 := U6.setX at_ pt
  refine one_ (i := 15) (N := none) #[true, true, true, true, true, true, true, true, true, true, true, true, true, true, true, true, false, false] rfl rfl (by kernel_rfl) (by decide) (fun K hK => ?_)
  refine skip_ (w1 := w7.setCell ⟨g0, at_.toNat, none⟩ (.string pt)) (by rfl) rfl (by first | (go_simp; done) | (go_simp; rfl)) ?_
  generalize w7.setCell ⟨g0, at_.toNat, none⟩ (.string pt) = w8 at V6 ⊢
  refine hK.out _ _ ⟨⟨⟨(cells8 V6.d.p).2.2.2.2.2.2.1, pw_cell_below V6.d.bl zp.out⟩, (cells4 V6.d.s).2.2.1⟩, cells4 V6.t⟩ (fun hHeld => ?_)
  clear hK K sp0
  refine pure_ (i := 16) (N := some 187) (v := ?_) (a' := ?_) #[true, true, true, true, true, true, true, true, true, true, true, true, true, true, true, true, true, false] rfl rfl (by kernel_rfl) (fun _ _ _ h => h) (Or.inl ⟨by rfl, ?_⟩) ?_ ?_
  rotate_left
  · intro w'; go_simp; try with_reducible rfl
  rotate_left
  · simp only [Act.put, List.setIfInBounds_toArray, List.set_cons_zero, List.set_cons_succ, i64_w, i32_w]; rfl
  have sp1 : w8.cell? ⟨g1, at_.toNat, none⟩ = some (.bool (rdOf false ss at_)) ∧ w8.frozen? ⟨g1, at_.toNat, none⟩ = false := V6.spotB at_ ha0 tq2
  have T7 := V6.setB at_ true
  refine one_ (i := 17) (N := none) #[true, true, true, true, true, true, true, true, true, true, true, true, true, true, true, true, true, true] rfl rfl (by kernel_rfl) (by decide) (fun K hK => ?_)
  refine skip_ (w1 := w8.setCell ⟨g1, at_.toNat, none⟩ (.bool true)) (by rfl) rfl (by first | (go_simp; done) | (go_simp; rfl)) ?_
  generalize w8.setCell ⟨g1, at_.toNat, none⟩ (.bool true) = w9a at T7 ⊢
  refine hK.out _ _ ⟨⟨⟨(cells8 T7.d.p).2.2.2.2.2.2.1, pw_cell_below T7.d.bl zp.out⟩, (cells4 T7.d.s).2.2.1⟩, cells4 T7.t⟩ (fun hHeld => ?_)
  clear hK K sp1
  refine done_ (by kernel_rfl) ?_
  replace T7 := Lib.hid T7
  clear V6 U6 P6 hHeld
  have q := And.intro (doFacts T7.out.d) (And.intro (cells4 T7.out.t) (frozen4 T7.out.t))
  go_wp2_with (first | ((with_reducible refine gate_store (t := 29) (p := 6) (v := .tmp 205) rfl ?_); go_must (refine store_event (w1 := put4 w9a (w.heap.size + 1 + 1 + 1) (.slice (some ⟨g0, 0, none⟩) sc.length k0) (.slice (some ⟨g1, 0, none⟩) ss.length k1) (.int .i64 at_) (.bool dn)) (by rfl) (by rfl) (by rfl) ?hr ?_; (case hr => first | (go_simp; done) | (go_simp; rfl)); intro w9 hw9; have Fw9 := put4_facts T7.out.d.r (.slice (some ⟨g0, 0, none⟩) sc.length k0) (.slice (some ⟨g1, 0, none⟩) ss.length k1) (.int .i64 at_) (.bool dn); rw [← hw9] at Fw9; have T9 := Lib.hid (T7.out.putR Fw9); clear hw9 Fw9 q)))
  refine bodyPost_ret (results_ct rfl _ _ (w.heap.size + 1 + 1 + 1) 29 #[.slice (some ⟨g0, 0, none⟩) sc.length k0, .slice (some ⟨g1, 0, none⟩) ss.length k1, .int .i64 at_, .bool dn] (0, 0) _ rfl T9.out.d.r Tryz.underlying29 rfl (by kernel_rfl)) rfl ?_
  exact ⟨_, _, rfl, T9.out.d.x, T9.out.d.b, T9.out.d.bl⟩
set_option maxHeartbeats 8000000 in
set_option maxRecDepth 1000000 in
theorem rdo_clear {text : ByteArray} {w : World} (hP : PuzR A2 c2 bl A3 c3 ri A4 c4 be A5 c5 cells A6 c6 clues w) (hS : ShtR A7 c7 sc A8 c8 ss w) (hz : PuzS title cells clues) (hzs : Small sc) (h0 : scheck title H W bl ri be cells clues sc ss at_ = 0) (htl : text.toList = []) :
    Calls Tryz.prog 8 #[.agg #[.string title, .int .i64 H, .int .i64 W, .slice A2 bl.length c2, .slice A3 ri.length c3, .slice A4 be.length c4, .slice A5 cells.length c5, .slice A6 clues.length c6], .agg #[.slice A7 sc.length c7, .slice A8 ss.length c8, .int .i64 at_, .bool dn], .agg #[.int .i64 7, .int .i64 0, .string text]] w (DoPost w (List.replicate sc.length ⟨#[]⟩, List.replicate ss.length false, at_, dn, 0)) := by
  have hck := h0
  obtain ⟨hgc, hl0, hl1, hl2, ha0, ha1, hpos, h256⟩ := scheck_grid h0
  replace hck := Lib.hid hck
  replace hgc := Lib.hid hgc
  replace hl0 := Lib.hid hl0
  replace hl1 := Lib.hid hl1
  replace hl2 := Lib.hid hl2
  clear h0
  have hx := box4 w (.cells #[.string title, .int .i64 H, .int .i64 W, .slice A2 bl.length c2, .slice A3 ri.length c3, .slice A4 be.length c4, .slice A5 cells.length c5, .slice A6 clues.length c6] 27) (.cells #[.slice A7 sc.length c7, .slice A8 ss.length c8, .int .i64 at_, .bool dn] 29) (.cells #[.int .i64 7, .int .i64 0, .string text] 31) (.cells #[.slice none 0 0, .slice none 0 0, .int .i64 0, .bool false] 29)
  replace hx := Lib.hid hx
  have e4 : text.toList.isEmpty = true := by rw [htl]; rfl
  replace htl := Lib.hid htl
  have hss : ss.length = sc.length := by have := hl0.out; have := hl1.out; omega
  have hsc : sc.length ≤ 256 := by have := hl0.out; omega
  replace hss := Lib.hid hss
  have hu30 := Tryz.underlying29
  have hu36 := Tryz.underlying31
  have hu27 := Tryz.underlying27
  have hu24 := Tryz.underlying24
  go_enter Tryz.func8, Tryz.ntmps8
  go_wp2_with (first | (go_at_call 21; go_must (refine (rebusref23_Check.calls (hP.below hx.out.2.2.2.2) (hS.below hx.out.2.2.2.2) hz hzs).mono ?_; rintro e w3 ⟨rfl, hb3⟩; rw [hck.out]; have D3 := Lib.hid (DoW.below (w := w) (⟨hx.out.1, hx.out.2.1, hx.out.2.2.1, hx.out.2.2.2.1, Kd.R_nil _ _ _ _ _, Kd.R_nil _ _ _ _ _, hx.out.2.2.2.2⟩ : DoW w _ _ _ _ _ (.slice none 0 0) (.slice none 0 0) [] []) hb3); clear hb3; have q := doFacts D3.out)) | (go_at_call 5; go_must (refine (rebusref23_Copied.calls (hS.below D3.out.bl) (by have := hl0.out; omega) (by have := hl1.out; omega)).mono ?_; rintro e w4 ⟨v0, v1, rfl, hr0, hr1, hb4⟩; obtain ⟨g0, k0, rfl⟩ := R_form_n hr0 (n := sc.length) rfl (by have := hl0.out; omega); obtain ⟨g1, k1, rfl⟩ := R_form_n hr1 (n := ss.length) rfl (by have := hl1.out; omega); have D4a := DoW.below D3.out hb4; have D4 := Lib.hid (⟨D4a.p, D4a.s, D4a.a, D4a.r, Kd.R_lower hr0 D3.out.bl.size, Kd.R_lower hr1 D3.out.bl.size, D4a.bl⟩ : DoW w w4 _ _ _ _ (.slice (some ⟨g0, 0, none⟩) sc.length k0) (.slice (some ⟨g1, 0, none⟩) ss.length k1) sc ss); clear q D4a hr0 hr1 hb4; have q := doFacts D4.out)) | ((with_reducible refine gate_dst (N := 9) rfl ?_); go_must (refine event_at (v := .pointer (some ⟨w4.heap.size, 0, none⟩)) (w1 := w4.alloc (.cells #[.slice none 0 0, .slice none 0 0, .int .i64 0, .bool false] 29)) (by rfl) ?hr ?_; (case hr => first | (go_simp; done) | (go_simp; rfl)); have T5 := Lib.hid (RdW.mk (⟨blk_alloc D4.out.p _, blk_alloc D4.out.s _, blk_alloc D4.out.a _, blk_alloc D4.out.r _, Kd.R_alloc D4.out.x _, Kd.R_alloc D4.out.b _, below_alloc D4.out.bl _⟩ : DoW w (w4.alloc (.cells #[.slice none 0 0, .slice none 0 0, .int .i64 0, .bool false] 29)) _ _ _ _ (.slice (some ⟨g0, 0, none⟩) sc.length k0) (.slice (some ⟨g1, 0, none⟩) ss.length k1) sc ss) (blk_new w4 _) (blk_lt D4.out.r)); generalize w4.alloc (.cells #[.slice none 0 0, .slice none 0 0, .int .i64 0, .bool false] 29) = w5 at T5 ⊢; generalize w4.heap.size = bt at T5 ⊢; clear q D4; have q := And.intro (doFacts T5.out.d) (And.intro (cells4 T5.out.t) (frozen4 T5.out.t)))) | ((with_reducible refine gate_store (t := 29) (p := 9) (v := .tmp 52) rfl ?_); go_must (refine store_event (w1 := put4 w5 bt (.slice (some ⟨g0, 0, none⟩) sc.length k0) (.slice (some ⟨g1, 0, none⟩) ss.length k1) (.int .i64 at_) (.bool dn)) (by rfl) (by rfl) (by rfl) ?hr ?_; (case hr => first | (go_simp; done) | (go_simp; rfl)); intro w6 hw6; have Fw6 := put4_facts T5.out.t (.slice (some ⟨g0, 0, none⟩) sc.length k0) (.slice (some ⟨g1, 0, none⟩) ss.length k1) (.int .i64 at_) (.bool dn); rw [← hw6] at Fw6; have T6 := Lib.hid (T5.out.putT Fw6); clear hw6 Fw6 q; have q := And.intro (doFacts T6.out.d) (And.intro (cells4 T6.out.t) (frozen4 T6.out.t)))))
  go_loopw [14] (fun v14 wr => ∃ (i : Nat) (p : Int), v14 = .int .i64 p ∧ Hid (p = i ∧ i ≤ sc.length) ∧ Hid (RdW w wr bt #[.string title, .int .i64 H, .int .i64 W, .slice A2 bl.length c2, .slice A3 ri.length c3, .slice A4 be.length c4, .slice A5 cells.length c5, .slice A6 clues.length c6] #[.slice A7 sc.length c7, .slice A8 ss.length c8, .int .i64 at_, .bool dn] #[.int .i64 7, .int .i64 0, .string text] #[.slice none 0 0, .slice none 0 0, .int .i64 0, .bool false] #[.slice (some ⟨g0, 0, none⟩) sc.length k0, .slice (some ⟨g1, 0, none⟩) ss.length k1, .int .i64 at_, .bool dn] (.slice (some ⟨g0, 0, none⟩) sc.length k0) (.slice (some ⟨g1, 0, none⟩) ss.length k1) (wiped ⟨#[]⟩ sc i) (wiped false ss i))) (fun v14 _ => sc.length - (intOf v14).toNat)
  case atStart => exact ⟨0, 0, rfl, Lib.hid ⟨rfl, Nat.zero_le _⟩, T6⟩
  case round =>
    clear q
    obtain ⟨i, p, rfl, hp, hW⟩ := hrel
    have q := And.intro (doFacts hW.out.d) (And.intro (cells4 hW.out.t) (frozen4 hW.out.t))
    by_cases hlt : i < sc.length
    · have hp0 : 0 ≤ p := by have := hp.out; omega
      have hp1 : p < (sc.length : Int) := by have := hp.out; omega
      have hp2 : p < (ss.length : Int) := by have := hp.out; have := hss.out; omega
      have hp3 : p < 256 := by omega
      have l1 : (wiped ⟨#[]⟩ sc i).length = sc.length := wiped_len _ _ (by omega)
      have l2 : (wiped false ss i).length = ss.length := wiped_len _ _ (by have := hss.out; omega)
      have pn : p.toNat = i := by have := hp.out; omega
      replace pn := Lib.hid pn
      replace l1 := Lib.hid l1
      replace l2 := Lib.hid l2
      replace hlt := Lib.hid hlt
      go_wp2
      have U := hW.out.drew
      refine start_ (n := 10) (S := fun w' => w'.cell? ⟨bt, 0, none⟩ = some (.slice (some ⟨g0, 0, none⟩) sc.length k0) ∧ w'.cell? ⟨bt, 1, none⟩ = some (.slice (some ⟨g1, 0, none⟩) ss.length k1) ∧ w'.cell? ⟨bt, 2, none⟩ = some (.int .i64 at_) ∧ w'.cell? ⟨bt, 3, none⟩ = some (.bool dn)) (ds := []) #[false, false, false, false, false, false, false, false, false, false] (by kernel_rfl) rfl rfl (cells4 U.t) (fun hHeld => ?_)
      clear q
      generalize wr.drew = w7 at U hHeld ⊢
      refine pure_ (i := 0) (N := some 197) (v := ?_) (a' := ?_) #[true, false, false, false, false, false, false, false, false, false] rfl rfl (by kernel_rfl) (fun _ _ _ h => h) (Or.inl ⟨by rfl, ?_⟩) ?_ ?_
      rotate_left
      · intro w'; go_simp; try with_reducible rfl
      rotate_left
      · simp only [Act.put, List.setIfInBounds_toArray, List.set_cons_zero, List.set_cons_succ, i64_w, i32_w]; rfl
      refine pure_ (i := 2) (N := some 199) (v := ?_) (a' := ?_) #[true, false, true, false, false, false, false, false, false, false] rfl rfl (by kernel_rfl) (fun _ _ _ h => h) (Or.inl ⟨by rfl, ?_⟩) ?_ ?_
      rotate_left
      · intro w'; go_simp; try with_reducible rfl
      rotate_left
      · simp only [Act.put, List.setIfInBounds_toArray, List.set_cons_zero, List.set_cons_succ, i64_w, i32_w]; rfl
      refine pure_ (i := 3) (N := some 200) (v := ?_) (a' := ?_) #[true, false, true, true, false, false, false, false, false, false] rfl rfl (by kernel_rfl) (fun _ _ _ h => h) (Or.inl ⟨by rfl, ?_⟩) ?_ ?_
      rotate_left
      · intro w'; go_simp; try with_reducible rfl
      rotate_left
      · simp only [Act.put, List.setIfInBounds_toArray, List.set_cons_zero, List.set_cons_succ, i64_w, i32_w]; rfl
      refine pure_ (i := 5) (N := some 202) (v := ?_) (a' := ?_) #[true, false, true, true, false, true, false, false, false, false] rfl rfl (by kernel_rfl) (fun _ _ _ h => h) (Or.inl ⟨by rfl, ?_⟩) ?_ ?_
      rotate_left
      · intro w'; go_simp; try with_reducible rfl
      rotate_left
      · simp only [Act.put, List.setIfInBounds_toArray, List.set_cons_zero, List.set_cons_succ, i64_w, i32_w]; rfl
      refine take_ (i := 1) (N := some 198) (v := ?_) (a' := ?_) #[true, true, true, true, false, true, false, false, false, false] rfl rfl (by kernel_rfl) (fun _ _ _ h => h) (Or.inl ⟨by rfl, ?_⟩) hHeld ?_ ?_
      rotate_left
      · intro w' s0; (try dsimp only at s0); go_simp; try with_reducible rfl
      rotate_left
      · simp only [Act.put, List.setIfInBounds_toArray, List.set_cons_zero, List.set_cons_succ, i64_w, i32_w]; rfl
      refine take_ (i := 4) (N := some 201) (v := ?_) (a' := ?_) #[true, true, true, true, true, true, false, false, false, false] rfl rfl (by kernel_rfl) (fun _ _ _ h => h) (Or.inl ⟨by rfl, ?_⟩) hHeld ?_ ?_
      rotate_left
      · intro w' s0; (try dsimp only at s0); go_simp; try with_reducible rfl
      rotate_left
      · simp only [Act.put, List.setIfInBounds_toArray, List.set_cons_zero, List.set_cons_succ, i64_w, i32_w]; rfl
      refine pure_ (i := 6) (N := some 203) (v := ?_) (a' := ?_) #[true, true, true, true, true, true, true, false, false, false] rfl rfl (by kernel_rfl) (fun _ _ _ h => h) (Or.inl ⟨by rfl, ?_⟩) ?_ ?_
      rotate_left
      · intro w'; go_simp; try with_reducible rfl
      rotate_left
      · simp only [Act.put, List.setIfInBounds_toArray, List.set_cons_zero, List.set_cons_succ, i64_w, i32_w]; rfl
      have sp0 := U.spotX2 l1.out p hp0 hp1
      have V6 := U.setX2 l1.out l2.out p ⟨#[]⟩
      refine one_ (i := 7) (N := none) #[true, true, true, true, true, true, true, true, false, false] rfl rfl (by kernel_rfl) (by decide) (fun K hK => ?_)
      refine skip_ (w1 := w7.setCell ⟨g0, p.toNat, none⟩ (.string ⟨#[]⟩)) (by rfl) rfl (by first | (go_simp; done) | (go_simp; rfl)) ?_
      generalize w7.setCell ⟨g0, p.toNat, none⟩ (.string ⟨#[]⟩) = w8 at V6 ⊢
      refine hK.out _ _ (cells4 V6.t) (fun hHeld => ?_)
      clear hK K sp0
      refine pure_ (i := 8) (N := some 204) (v := ?_) (a' := ?_) #[true, true, true, true, true, true, true, true, true, false] rfl rfl (by kernel_rfl) (fun _ _ _ h => h) (Or.inl ⟨by rfl, ?_⟩) ?_ ?_
      rotate_left
      · intro w'; go_simp; try with_reducible rfl
      rotate_left
      · simp only [Act.put, List.setIfInBounds_toArray, List.set_cons_zero, List.set_cons_succ, i64_w, i32_w]; rfl
      have sp1 := V6.spotB2 l2.out p hp0 hp2
      have T7 := V6.setB2 l2.out p false
      refine one_ (i := 9) (N := none) #[true, true, true, true, true, true, true, true, true, true] rfl rfl (by kernel_rfl) (by decide) (fun K hK => ?_)
      refine skip_ (w1 := w8.setCell ⟨g1, p.toNat, none⟩ (.bool false)) (by rfl) rfl (by first | (go_simp; done) | (go_simp; rfl)) ?_
      generalize w8.setCell ⟨g1, p.toNat, none⟩ (.bool false) = w9 at T7 ⊢
      refine hK.out _ _ (cells4 T7.t) (fun hHeld => ?_)
      clear hK K sp1 V6 U hHeld
      refine done_ (by kernel_rfl) ?_
      rw [pn.out, wiped_set _ _ hlt.out, wiped_set _ _ (by have := hss.out; have := hlt.out; omega)] at T7
      go_wp2
      refine ⟨⟨i + 1, p + 1, rfl, Lib.hid ⟨by have := hp.out; omega, hlt.out⟩, Lib.hid T7⟩, ?_⟩
      simp only [intOf]; have := hp.out; have := hlt.out; omega
    · have hge : ¬ p < (sc.length : Int) := by have := hp.out; omega
      have ie : i = sc.length := by have := hp.out; omega
      have hW2 := hW.out
      have e2 : wiped false ss sc.length = List.replicate ss.length false := by rw [← hss.out, wiped_all]
      rw [ie, wiped_all, e2] at hW2
      replace hW2 := Lib.hid hW2
      clear ie
      go_wp2_with (first | ((with_reducible refine gate_store (t := 29) (p := 6) (v := .tmp 205) rfl ?_); go_must (refine store_event (w1 := put4 wr (w.heap.size + 1 + 1 + 1) (.slice (some ⟨g0, 0, none⟩) sc.length k0) (.slice (some ⟨g1, 0, none⟩) ss.length k1) (.int .i64 at_) (.bool dn)) (by rfl) (by rfl) (by rfl) ?hr ?_; (case hr => first | (go_simp; done) | (go_simp; rfl)); intro w9x hw9x; have Fw9x := put4_facts hW2.out.d.r (.slice (some ⟨g0, 0, none⟩) sc.length k0) (.slice (some ⟨g1, 0, none⟩) ss.length k1) (.int .i64 at_) (.bool dn); rw [← hw9x] at Fw9x; have T9 := Lib.hid (hW2.out.putR Fw9x); clear hw9x Fw9x q)))
      refine bodyPost_ret (results_ct rfl _ _ (w.heap.size + 1 + 1 + 1) 29 #[.slice (some ⟨g0, 0, none⟩) sc.length k0, .slice (some ⟨g1, 0, none⟩) ss.length k1, .int .i64 at_, .bool dn] (0, 0) _ rfl T9.out.d.r Tryz.underlying29 rfl (by kernel_rfl)) rfl ?_
      exact ⟨_, _, rfl, T9.out.d.x, T9.out.d.b, T9.out.d.bl⟩
theorem ucount_none {s : ByteArray} (h : s.toList = []) : ucount s = 0 := by
  have h1 : s.data.toList.length = 0 := by rw [← ByteArray.toList_eq, h]; rfl
  rw [Array.length_toList] at h1
  have h2 : s.size = 0 := h1
  unfold ucount uall
  rw [h2]
  rfl
theorem rebusref23_Do.calls {kind cell : Int} {text : ByteArray} {w : World} (hP : PuzR A2 c2 bl A3 c3 ri A4 c4 be A5 c5 cells A6 c6 clues w) (hS : ShtR A7 c7 sc A8 c8 ss w) (hz : PuzS title cells clues) (hzs : Small sc) (hzt : text.size ≤ 1048576) :
    Calls Tryz.prog 8 #[.agg #[.string title, .int .i64 H, .int .i64 W, .slice A2 bl.length c2, .slice A3 ri.length c3, .slice A4 be.length c4, .slice A5 cells.length c5, .slice A6 clues.length c6], .agg #[.slice A7 sc.length c7, .slice A8 ss.length c8, .int .i64 at_, .bool dn], .agg #[.int .i64 kind, .int .i64 cell, .string text]] w (DoPost w (doOf title H W bl ri be cells clues sc ss at_ dn kind cell text)) := by
  unfold doOf
  by_cases h0 : scheck title H W bl ri be cells clues sc ss at_ = 0
  · rw [if_pos h0]
    obtain ⟨hgc, hl0, hl1, hl2, ha0, ha1, hpos, h256⟩ := scheck_grid h0
    cases hb : badAct kind cell text with
    | true => exact rdo_bad hP hS hz hzs h0 hb
    | false =>
      obtain ⟨hk, hx, hc⟩ := badAct_no hb
      clear hb
      have hkk : kind = 1 ∨ kind = 2 ∨ kind = 3 ∨ kind = 4 ∨ kind = 5 ∨ kind = 6 ∨ kind = 7 := by omega
      simp only [Bool.false_eq_true, if_false]
      rcases hkk with rfl | rfl | rfl | rfl | rfl | rfl | rfl
      · obtain rfl := hc (by decide)
        have e : doAct H W bl ri be cells sc ss at_ dn 1 0 text = if ucount (ufold text false) < 1 ∨ 3 < ucount (ufold text false) then doErr 33 else (sc.set at_.toNat (ufold text false), ss.set at_.toNat (!(ufold text false).toList.isEmpty), stepOf H W bl ri be at_ dn 1, dn, 0) := by unfold doAct; rw [if_pos rfl]
        rw [e]
        by_cases h1 : ucount (ufold text false) < 1
        · rw [if_pos (.inl h1)]; exact rdo_type_few hP hS hz hzs h0 hzt (by omega)
        · by_cases h2 : 3 < ucount (ufold text false)
          · rw [if_pos (.inr h2)]; exact rdo_type_many hP hS hz hzs h0 hzt (by omega)
          · have hne : (!(ufold text false).toList.isEmpty) = true := by
              rw [toList_nil.2 (fun h => by have := ucount_none h; omega)]
              rfl
            rw [if_neg (by omega), hne, beside_step hgc ha0 ha1]
            obtain ⟨b, hbs⟩ : ∃ b, besideOf H W bl ri be at_ dn 1 = b := ⟨_, rfl⟩
            rw [hbs]
            by_cases hb0 : 0 ≤ b
            · rw [if_pos hb0]; exact rdo_type_on hP hS hz hzs h0 hzt ⟨by omega, by omega⟩ hbs hb0
            · rw [if_neg hb0]; exact rdo_type_stay hP hS hz hzs h0 hzt ⟨by omega, by omega⟩ hbs (by omega)
      · obtain rfl := hc (by decide)
        cases he : emptyAt sc at_ with
        | true =>
          have e : doAct H W bl ri be cells sc ss at_ dn 2 0 text = (sc.set (stepOf H W bl ri be at_ dn (-1)).toNat ⟨#[]⟩, ss.set (stepOf H W bl ri be at_ dn (-1)).toNat false, stepOf H W bl ri be at_ dn (-1), dn, 0) := by unfold doAct; rw [if_neg (by decide), if_pos rfl, if_pos he]
          have hr := stepOf_range (dn := dn) (d := -1) hgc ha0 ha1
          rw [e]
          rw [beside_step hgc ha0 ha1] at hr ⊢
          obtain ⟨b, hbs⟩ : ∃ b, besideOf H W bl ri be at_ dn (-1) = b := ⟨_, rfl⟩
          rw [hbs] at hr ⊢
          by_cases hb0 : 0 ≤ b
          · rw [if_pos hb0] at hr ⊢; exact rdo_wipe_back hP hS hz hzs h0 (hx (by decide)) he hbs hb0 hr.2
          · rw [if_neg hb0]; exact rdo_wipe_stay hP hS hz hzs h0 (hx (by decide)) he hbs (by omega)
        | false =>
          have e : doAct H W bl ri be cells sc ss at_ dn 2 0 text = (sc.set at_.toNat ⟨#[]⟩, ss.set at_.toNat false, at_, dn, 0) := by unfold doAct; rw [if_neg (by decide), if_pos rfl, if_neg (by rw [he]; decide)]
          rw [e]; exact rdo_wipe hP hS hz hzs h0 (hx (by decide)) he
      · have e : doAct H W bl ri be cells sc ss at_ dn 3 cell text = if gopen bl cell then (if cell = at_ then (sc, ss, at_, !dn, 0) else (sc, ss, cell, dn, 0)) else doErr 230 := by unfold doAct; rw [if_neg (by decide), if_neg (by decide), if_pos rfl]
        rw [e]
        cases ho : gopen bl cell with
        | true =>
          by_cases hn : cell = at_
          · rw [if_pos rfl, if_pos hn]
            have := rdo_move_at (dn := dn) hP hS hz hzs h0 (hx (by decide)) ho hn
            rw [hn] at this ⊢
            exact this
          · rw [if_pos rfl, if_neg hn]; exact rdo_move_on hP hS hz hzs h0 (hx (by decide)) ho hn
        | false => rw [if_neg (by decide)]; exact rdo_move_no hP hS hz hzs h0 (hx (by decide)) ho
      · obtain rfl := hc (by decide)
        have e : doAct H W bl ri be cells sc ss at_ dn 4 0 text = (sc, ss, at_, !dn, 0) := by unfold doAct; rw [if_neg (by decide), if_neg (by decide), if_neg (by decide), if_pos rfl]
        rw [e]; exact rdo_swap hP hS hz hzs h0 (hx (by decide))
      · obtain rfl := hc (by decide)
        have e : doAct H W bl ri be cells sc ss at_ dn 5 0 text = if emptyAt sc at_ then doErr 140 else (sc, ss.set at_.toNat (!rdOf false ss at_), at_, dn, 0) := by unfold doAct; rw [if_neg (by decide), if_neg (by decide), if_neg (by decide), if_neg (by decide), if_pos rfl]
        rw [e]
        cases he : emptyAt sc at_ with
        | true => rw [if_pos rfl]; exact rdo_pencil_no hP hS hz hzs h0 (hx (by decide)) he
        | false => rw [if_neg (by decide)]; exact rdo_pencil hP hS hz hzs h0 (hx (by decide)) he
      · obtain rfl := hc (by decide)
        have e : doAct H W bl ri be cells sc ss at_ dn 6 0 text = if emptyAt cells at_ then doErr 140 else (sc.set at_.toNat (rdOf ByteArray.empty cells at_), ss.set at_.toNat (!emptyAt cells at_), at_, dn, 0) := by unfold doAct; rw [if_neg (by decide), if_neg (by decide), if_neg (by decide), if_neg (by decide), if_neg (by decide), if_pos rfl]
        rw [e]
        cases he : emptyAt cells at_ with
        | true => rw [if_pos rfl]; exact rdo_reveal_no hP hS hz hzs h0 (hx (by decide)) he
        | false => rw [if_neg (by decide)]; exact rdo_reveal hP hS hz hzs h0 (hx (by decide)) he
      · obtain rfl := hc (by decide)
        have e : doAct H W bl ri be cells sc ss at_ dn 7 0 text = (List.replicate sc.length ⟨#[]⟩, List.replicate ss.length false, at_, dn, 0) := by unfold doAct; rw [if_neg (by decide), if_neg (by decide), if_neg (by decide), if_neg (by decide), if_neg (by decide), if_neg (by decide)]
        rw [e]; exact rdo_clear hP hS hz hzs h0 (hx (by decide))
  · rw [if_neg h0]
    exact rdo_wrong hP hS hz hzs h0
end Go.Proofs.YtiipailmldbpbaaGreatDoor.Q
