/- PART 11 OF A PROOF: Lean functions, and that the program computes them; written by hand and by a program. Not trusted: Lean checks it. -/
import Derived.Test.YtiipailmldbpbaaDoorAd3
import Derived.Test.YtiipailmldbpbaaDoorAd4
import Derived.Test.YtiipailmldbpbaaDoorAd8
import Derived.Test.YtiipailmldbpbaaDoorAd9
import Derived.Test.YtiipailmldbpbaaDoorAd10
set_option linter.unusedVariables false
set_option linter.unusedSimpArgs false
section
namespace Go.Proofs.YtiipailmldbpbaaDoor.Q
open Go.RowKit Go.Proofs.YtiipailmldbpbaaDoorW.PrintWords Go.Proofs.YtiipailmldbpbaaDoorW.PrintLast Go.Proofs.YtiipailmldbpbaaDoorW.PrintMore
set_option linter.unusedVariables false
open Go.Proofs.YtiipailmldbpbaaDoorS
def pbad1 (bl : List Bool) (cells : List ByteArray) (i : Nat) : Bool := !(rdOf ByteArray.empty cells (i : Int)).toList.isEmpty && (rdOf false bl (i : Int) || !uletter (rdOf ByteArray.empty cells (i : Int)))
def pbad (bl : List Bool) (cells : List ByteArray) : Nat → Nat → Bool
  | 0, _ => false
  | d + 1, i => pbad1 bl cells i || pbad bl cells d (i + 1)
def pcheck (title : ByteArray) (H W : Int) (bl ri be : List Bool) (cells clues : List ByteArray) : Int :=
  if gcheck H W bl ri be = 0 then (if cells.length = bl.length then (if pbad bl cells cells.length 0 then 33 else if clues.length = (slotsOf H W bl ri be).length then (if (clues ++ [title]).all uline then 0 else 221) else 160) else 51) else gcheck H W bl ri be
def Small (l : List ByteArray) : Prop := ∀ s ∈ l, s.size ≤ 1048576
theorem rdOf_mem {l : List ByteArray} {i : Nat} (h : i < l.length) : rdOf ByteArray.empty l (i : Int) ∈ l := by
  have e : rdOf ByteArray.empty l (i : Int) = l[i] := by simp [rdOf, List.getD_eq_getElem?_getD, h]
  rw [e]; exact List.getElem_mem h
theorem Small.rd {l : List ByteArray} (h : Small l) {i : Nat} (hi : i < l.length) : (rdOf ByteArray.empty l (i : Int)).size ≤ 1048576 := h _ (rdOf_mem hi)
theorem toList_nil {l : List UInt8} : l.isEmpty = false ↔ ¬ l = [] := by cases l <;> simp
theorem page_Check_l1_eq (ls : List ByteArray) (hs : Small ls) (hl : ls.length ≤ 1048577) : ∀ (d i k : Nat), i + d = ls.length → d < k → page_Check.l1 k ls (ls.length : Int) (i : Int) = some (if (ls.drop i).all uline then 0 else 221) := by
  intro d
  induction d with
  | zero =>
    intro i k hi hk
    obtain ⟨k, rfl⟩ : ∃ m, k = m + 1 := ⟨k - 1, by omega⟩
    simp only [page_Check.l1]
    rw [if_neg (by omega), List.drop_of_length_le (by omega)]
    rfl
  | succ d ih =>
    intro i k hi hk
    obtain ⟨k, rfl⟩ : ∃ m, k = m + 1 := ⟨k - 1, by omega⟩
    simp only [page_Check.l1]
    have hil : i < ls.length := by omega
    rw [if_pos (by omega), if_pos (by omega), if_pos (by omega)]
    have hz := hs.rd hil
    have e : page_line.f (rdOf ByteArray.empty ls (i : Int)) = some (uline (rdOf ByteArray.empty ls (i : Int))) := by unfold page_line.f; rw [if_pos (by omega)]
    rw [e]
    simp only [Option.bind_some]
    rw [List.drop_eq_getElem_cons hil, show ls[i] = rdOf ByteArray.empty ls (i : Int) from by simp [rdOf, List.getD_eq_getElem?_getD, hil], List.all_cons]
    cases uline (rdOf ByteArray.empty ls (i : Int)) with
    | false => rfl
    | true =>
      rw [w64 (by omega) (by omega)]
      simpa using ih (i + 1) k (by omega) (by omega)
theorem page_Check_l0_eq (title : ByteArray) (H W : Int) (bl ri be : List Bool) (cells clues : List ByteArray) (ht : title.size ≤ 1048576) (hs : Small cells) (hc : Small clues) (hl : cells.length ≤ 1048576) (hb : cells.length = bl.length) (hm : clues.length ≤ 1048576) :
    ∀ (d i k : Nat), i + d = cells.length → d + clues.length + 3 < k → page_Check.l0 k cells (cells.length : Int) (i : Int) title H W bl ri be cells clues = some (if pbad bl cells d i then 33 else if clues.length = (slotsOf H W bl ri be).length then (if (clues ++ [title]).all uline then 0 else 221) else 160) := by
  intro d
  induction d with
  | zero =>
    intro i k hi hk
    obtain ⟨k, rfl⟩ : ∃ m, k = m + 1 := ⟨k - 1, by omega⟩
    simp only [page_Check.l0]
    rw [if_neg (by omega)]
    simp only [pbad, Bool.false_eq_true, if_false, slots_List.f, Option.bind_some]
    by_cases he : clues.length = (slotsOf H W bl ri be).length
    · rw [if_pos (by rw [he]), if_pos he]
      unfold slices_Clone_string_string.f
      rw [if_pos (by omega)]
      simp only [Option.bind_some]
      rw [if_pos (by simp only [List.length_singleton]; omega)]
      have := page_Check_l1_eq (clues ++ [title]) (fun s hs => by rcases List.mem_append.1 hs with h | h; exact hc s h; rw [List.mem_singleton.1 h]; exact ht) (by simp only [List.length_append, List.length_singleton]; omega) (clues ++ [title]).length 0 k (by omega) (by simp only [List.length_append, List.length_singleton]; omega)
      rw [List.drop_zero] at this
      exact this
    · rw [if_neg (by omega), if_neg he]
  | succ d ih =>
    intro i k hi hk
    obtain ⟨k, rfl⟩ : ∃ m, k = m + 1 := ⟨k - 1, by omega⟩
    have hih := ih (i + 1) k (by omega) (by omega)
    simp only [page_Check.l0]
    have hil : i < cells.length := by omega
    have hz := hs.rd hil
    rw [if_pos (by omega), if_pos (by omega), if_pos (by omega)]
    rw [w64 (by omega) (by omega)]
    have hp : pbad bl cells (d + 1) i = (pbad1 bl cells i || pbad bl cells d (i + 1)) := rfl
    rw [hp]
    by_cases h0 : (rdOf ByteArray.empty cells (i : Int)).toList = ([] : List UInt8)
    · have h1 : pbad1 bl cells i = false := by simp [pbad1, h0]
      rw [if_pos h0, h1, Bool.false_or]
      exact hih
    · rw [if_neg h0, if_pos (by omega)]
      cases hbl : rdOf false bl (i : Int) with
      | true =>
        have h1 : pbad1 bl cells i = true := by simp [pbad1, h0, hbl]
        rw [h1, if_pos rfl, Bool.true_or, if_pos rfl]
      | false =>
        have e : page_letter.f (rdOf ByteArray.empty cells (i : Int)) = some (uletter (rdOf ByteArray.empty cells (i : Int))) := by unfold page_letter.f; rw [if_pos (by omega)]
        rw [e]
        simp only [Option.bind_some, Bool.false_eq_true, if_false]
        cases hle : uletter (rdOf ByteArray.empty cells (i : Int)) with
        | false =>
          have h1 : pbad1 bl cells i = true := by simp [pbad1, h0, hle]
          rw [h1, Bool.true_or, if_pos rfl]
          rfl
        | true =>
          have h1 : pbad1 bl cells i = false := by simp [pbad1, hbl, hle]
          rw [h1, Bool.false_or, if_pos rfl]
          exact hih
theorem page_Check_eq (title : ByteArray) (H W : Int) (bl ri be : List Bool) (cells clues : List ByteArray) (ht : title.size ≤ 1048576) (hs : Small cells) (hc : Small clues) (hl : cells.length ≤ 1048576) (hm : clues.length ≤ 1048576) (k : Nat) (hk : bl.length + cells.length + clues.length + 5 ≤ k) :
    page_Check.f k title H W bl ri be cells clues = some (pcheck title H W bl ri be cells clues) := by
  unfold page_Check.f pcheck
  rw [grid_Check_eq _ _ _ _ _ _ (by omega)]
  simp only [Option.bind_some]
  by_cases h : gcheck H W bl ri be = 0
  · rw [if_pos h, if_pos h]
    by_cases h2 : cells.length = bl.length
    · rw [if_pos (by rw [h2]), if_pos h2]
      exact page_Check_l0_eq title H W bl ri be cells clues ht hs hc hl h2 hm cells.length 0 k (by omega) (by omega)
    · rw [if_neg (by omega), if_neg h2]
  · rw [if_neg h, if_neg h]
def sbad (sc : List ByteArray) (ss : List Bool) : Nat → Nat → Bool
  | 0, _ => false
  | d + 1, i => ((rdOf ByteArray.empty sc (i : Int)).toList.isEmpty && rdOf false ss (i : Int)) || sbad sc ss d (i + 1)
def scheck (title : ByteArray) (H W : Int) (bl ri be : List Bool) (cells clues : List ByteArray) (sc : List ByteArray) (ss : List Bool) (at_ : Int) : Int :=
  if pcheck title H W bl ri be cells clues = 0 then (if sc.length = cells.length ∧ ss.length = cells.length then (if pcheck ⟨#[]⟩ H W bl ri be sc clues = 0 then (if sbad sc ss sc.length 0 then 33 else if gopen bl at_ then 0 else 230) else 33) else 51) else pcheck title H W bl ri be cells clues
theorem pcheck_ok {title : ByteArray} {H W : Int} {bl ri be : List Bool} {cells clues : List ByteArray} (h : pcheck title H W bl ri be cells clues = 0) : gcheck H W bl ri be = 0 ∧ cells.length = bl.length ∧ pbad bl cells cells.length 0 = false ∧ clues.length = (slotsOf H W bl ri be).length ∧ (clues ++ [title]).all uline = true := by
  unfold pcheck at h
  by_cases h1 : gcheck H W bl ri be = 0
  · rw [if_pos h1] at h
    by_cases h2 : cells.length = bl.length
    · rw [if_pos h2] at h
      cases h3 : pbad bl cells cells.length 0 with
      | true => rw [h3] at h; simp at h
      | false =>
        rw [h3] at h
        simp only [Bool.false_eq_true, if_false] at h
        by_cases h4 : clues.length = (slotsOf H W bl ri be).length
        · rw [if_pos h4] at h
          cases h5 : (clues ++ [title]).all uline with
          | true => exact ⟨h1, h2, rfl, h4, rfl⟩
          | false => rw [h5] at h; simp at h
        · rw [if_neg h4] at h; cases h
    · rw [if_neg h2] at h; cases h
  · rw [if_neg h1] at h; exact absurd h h1
theorem sheet_Check_l0_eq (title : ByteArray) (H W : Int) (bl ri be : List Bool) (cells clues sc : List ByteArray) (ss : List Bool) (at_ : Int) (dn : Bool) (hg : gcheck H W bl ri be = 0) (hl : sc.length ≤ 1048576) (hb : ss.length = sc.length) :
    ∀ (d i k : Nat), i + d = sc.length → d + bl.length + 5 < k → sheet_Check.l0 k sc (sc.length : Int) (i : Int) title H W bl ri be cells clues sc ss at_ dn = some (if sbad sc ss d i then 33 else if gopen bl at_ then 0 else 230) := by
  intro d
  induction d with
  | zero =>
    intro i k hi hk
    obtain ⟨k, rfl⟩ : ∃ m, k = m + 1 := ⟨k - 1, by omega⟩
    simp only [sheet_Check.l0]
    rw [if_neg (by omega), grid_Open_eq _ _ _ _ _ _ _ (by omega), decide_eq_true hg]
    simp only [sbad, Bool.true_and, Option.bind_some, Bool.false_eq_true, if_false]
    cases gopen bl at_ <;> rfl
  | succ d ih =>
    intro i k hi hk
    obtain ⟨k, rfl⟩ : ∃ m, k = m + 1 := ⟨k - 1, by omega⟩
    have hih := ih (i + 1) k (by omega) (by omega)
    simp only [sheet_Check.l0]
    rw [if_pos (by omega), if_pos (by omega), if_pos (by omega)]
    rw [w64 (by omega) (by omega)]
    have hp : sbad sc ss (d + 1) i = (((rdOf ByteArray.empty sc (i : Int)).toList.isEmpty && rdOf false ss (i : Int)) || sbad sc ss d (i + 1)) := rfl
    rw [hp]
    by_cases h0 : (rdOf ByteArray.empty sc (i : Int)).toList = ([] : List UInt8)
    · rw [if_pos h0, if_pos (by omega)]
      have h1 : (rdOf ByteArray.empty sc (i : Int)).toList.isEmpty = true := by rw [h0]; rfl
      rw [h1, Bool.true_and]
      cases hss : rdOf false ss (i : Int) with
      | true => rfl
      | false => rw [Bool.false_or, if_neg (by decide)]; exact hih
    · rw [if_neg h0, toList_nil.2 h0, Bool.false_and, Bool.false_or]
      exact hih
theorem sheet_Check_eq (title : ByteArray) (H W : Int) (bl ri be : List Bool) (cells clues sc : List ByteArray) (ss : List Bool) (at_ : Int) (dn : Bool) (ht : title.size ≤ 1048576) (hs : Small cells) (hc : Small clues) (hsc : Small sc) (hl : cells.length ≤ 1048576) (hm : clues.length ≤ 1048576) (k : Nat) (hk : 2 * bl.length + cells.length + sc.length + clues.length + 12 ≤ k) :
    sheet_Check.f k title H W bl ri be cells clues sc ss at_ dn = some (scheck title H W bl ri be cells clues sc ss at_) := by
  unfold sheet_Check.f scheck
  rw [page_Check_eq _ _ _ _ _ _ _ _ ht hs hc hl hm _ (by omega)]
  simp only [Option.bind_some]
  by_cases h : pcheck title H W bl ri be cells clues = 0
  · rw [if_pos h, if_pos h]
    obtain ⟨k, rfl⟩ : ∃ m, k = m + 1 := ⟨k - 1, by omega⟩
    by_cases h1 : sc.length = cells.length
    · rw [if_pos (by rw [h1])]
      by_cases h2 : ss.length = cells.length
      · rw [if_pos ⟨h1, h2⟩, show ((ss.length : Int) != (cells.length : Int)) = false from by rw [h2]; simp]
        simp only [sheet_Check.j0, Bool.false_eq_true, if_false]
        rw [page_Check_eq _ _ _ _ _ _ _ _ (by decide) hsc hc (by omega) hm _ (by omega)]
        simp only [Option.bind_some]
        by_cases h3 : pcheck ⟨#[]⟩ H W bl ri be sc clues = 0
        · rw [if_pos h3, if_pos h3]
          exact sheet_Check_l0_eq title H W bl ri be cells clues sc ss at_ dn (pcheck_ok h).1 (by omega) (by omega) sc.length 0 k (by omega) (by omega)
        · rw [if_neg h3, if_neg h3]
      · rw [if_neg (fun h => h2 h.2), show ((ss.length : Int) != (cells.length : Int)) = true from by simp; omega]
        simp [sheet_Check.j0]
    · rw [if_neg (by omega), if_neg (fun h => h1 h.1)]
      simp [sheet_Check.j0]
  · rw [if_neg h, if_neg h]
theorem scheck_ok {title : ByteArray} {H W : Int} {bl ri be : List Bool} {cells clues sc : List ByteArray} {ss : List Bool} {at_ : Int} (h : scheck title H W bl ri be cells clues sc ss at_ = 0) : pcheck title H W bl ri be cells clues = 0 ∧ sc.length = cells.length ∧ ss.length = cells.length ∧ pcheck ⟨#[]⟩ H W bl ri be sc clues = 0 ∧ sbad sc ss sc.length 0 = false ∧ gopen bl at_ = true := by
  unfold scheck at h
  by_cases h1 : pcheck title H W bl ri be cells clues = 0
  · rw [if_pos h1] at h
    by_cases h2 : sc.length = cells.length ∧ ss.length = cells.length
    · rw [if_pos h2] at h
      by_cases h3 : pcheck ⟨#[]⟩ H W bl ri be sc clues = 0
      · rw [if_pos h3] at h
        cases h4 : sbad sc ss sc.length 0 with
        | true => rw [h4] at h; simp at h
        | false =>
          rw [h4] at h
          simp only [Bool.false_eq_true, if_false] at h
          cases h5 : gopen bl at_ with
          | true => exact ⟨h1, h2.1, h2.2, h3, rfl, rfl⟩
          | false => rw [h5] at h; simp at h
      · rw [if_neg h3] at h; cases h
    · rw [if_neg h2] at h; cases h
  · rw [if_neg h1] at h; exact absurd h h1
def firstOpen (bl : List Bool) : Nat → Nat → Int
  | 0, _ => -1
  | d + 1, i => if rdOf false bl (i : Int) then firstOpen bl d (i + 1) else (i : Int)
def sstart (title : ByteArray) (H W : Int) (bl ri be : List Bool) (cells clues : List ByteArray) : List ByteArray × List Bool × Int × Bool × Int :=
  if pcheck title H W bl ri be cells clues = 0 then (if firstOpen bl bl.length 0 < 0 then ([], [], 0, false, 230) else (List.replicate cells.length ⟨#[]⟩, List.replicate cells.length false, firstOpen bl bl.length 0, false, 0)) else ([], [], 0, false, pcheck title H W bl ri be cells clues)
end Go.Proofs.YtiipailmldbpbaaDoor.Q
end
section
namespace Go.Proofs.YtiipailmldbpbaaDoor.Q
open Go.RowKit Go.Proofs.YtiipailmldbpbaaDoorW.PrintWords Go.Proofs.YtiipailmldbpbaaDoorW.PrintLast Go.Proofs.YtiipailmldbpbaaDoorW.PrintMore
attribute [local go_sem] max2_int min2_int max_two min_two max_three min_three max_four min_four
set_option linter.unusedVariables false
set_option linter.unusedSimpArgs false
open Go.Proofs.YtiipailmldbpbaaDoorS
set_option maxHeartbeats 4000000 in
set_option maxRecDepth 100000 in
theorem sheet_write.calls (b : Nat) (base : Nat) (g0 g1 : Nat) (c0 c1 : Nat) (xs : List ByteArray) (bs : List Bool) (i : Int) (dn : Bool) (text : ByteArray) (w : World)
    (hbox : w.heap[b]? = some (.cells #[.slice (some ⟨g0, 0, none⟩) xs.length c0, .slice (some ⟨g1, 0, none⟩) bs.length c1, .int .i64 i, .bool dn] 30 (0, 0)))
    (hx : Kd.R Kd.string 9 w base (fun _ => True) (.slice (some ⟨g0, 0, none⟩) xs.length c0) xs) (hb : Kd.R Kd.bool 4 w base (fun _ => True) (.slice (some ⟨g1, 0, none⟩) bs.length c1) bs)
    (h0 : 0 ≤ i) (h1 : i < xs.length) (h2 : i < bs.length) :
    Calls Tryd.prog 25 #[.pointer (some ⟨b, 0, none⟩), .string text] w fun e w' => e = .returned (.tuple #[]) ∧ w'.heap[b]? = some (.cells #[.slice (some ⟨g0, 0, none⟩) xs.length c0, .slice (some ⟨g1, 0, none⟩) bs.length c1, .int .i64 i, .bool dn] 30 (0, 0)) ∧ Kd.R Kd.string 9 w' base (fun _ => True) (.slice (some ⟨g0, 0, none⟩) xs.length c0) (xs.set i.toNat text) ∧ Kd.R Kd.bool 4 w' base (fun _ => True) (.slice (some ⟨g1, 0, none⟩) bs.length c1) (bs.set i.toNat (!text.toList.isEmpty)) ∧ (∀ k, k ≠ g0 → k ≠ g1 → w'.heap[k]? = w.heap[k]?) ∧ (∀ B w0, Below B w0 w → B ≤ g0 → B ≤ g1 → Below B w0 w') := by
  have hu := Tryd.underlying30
  have z0 : w.cell? ⟨b, 0, none⟩ = some (.slice (some ⟨g0, 0, none⟩) xs.length c0) := (blk_cell hbox 0).trans rfl
  have z1 : w.cell? ⟨b, 1, none⟩ = some (.slice (some ⟨g1, 0, none⟩) bs.length c1) := (blk_cell hbox 1).trans rfl
  have z2 : w.cell? ⟨b, 2, none⟩ = some (.int .i64 i) := (blk_cell hbox 2).trans rfl
  obtain ⟨ad0, e0, x0⟩ := Kd.at_string (Kd.R_reads' hx).2.2 i h0 h1
  cases e0
  obtain ⟨ad1, e1, x1⟩ := Kd.at_bool (Kd.R_reads' hb).2.2 i h0 h2
  cases e1
  have d0 : decide (0 ≤ i) = true := decide_eq_true h0
  have d1 : decide (i < (xs.length : Int)) = true := decide_eq_true h1
  have d2 : decide (i < (bs.length : Int)) = true := decide_eq_true h2
  go_enter Tryd.func25, Tryd.ntmps25
  have n0 : g0 ≠ b := fun e => by have := Kd.R_ne hx hbox (by decide); simp [Value.ownBlock, e] at this
  have n1 : g1 ≠ b := fun e => by have := Kd.R_ne hb hbox (by decide); simp [Value.ownBlock, e] at this
  have hl0 : 0 < xs.length := by omega
  have hl1 : 0 < bs.length := by omega
  obtain ⟨cs0, hc0⟩ := Kd.R_typed hx g0 rfl
  obtain ⟨cs1, hc1⟩ := Kd.R_typed hb g1 rfl
  have hd0 : w.drew.heap[g0]? = some (.cells cs0 9 (0, 0)) := blk_drew hc0
  have f0 := blk_frozen hd0 i.toNat
  have x0' : w.cell? ⟨g0, i.toNat, none⟩ = some (.string (rdOf ByteArray.empty xs i)) := by have h := x0; rw [add_at, Nat.zero_add] at h; exact h
  have y0 : w.drew.cell? ⟨g0, i.toNat, none⟩ = some (.string (rdOf ByteArray.empty xs i)) := x0'
  go_wp2
  go_region_held (fun w' => w'.cell? ⟨b, 0, none⟩ = some (.slice (some ⟨g0, 0, none⟩) xs.length c0) ∧ w'.cell? ⟨b, 2, none⟩ = some (.int .i64 i)) (go_keep) (fail)
  have hx2 := Kd.R_drew (Kd.R_put hx i text).1
  have hb2 := Kd.R_drew (Kd.R_set hb hc0 (by decide) i.toNat (.string text))
  have hk2 : ∀ k, k ≠ g0 → (w.setCell ⟨g0, i.toNat, none⟩ (.string text)).drew.heap[k]? = w.heap[k]? := fun k hk => Below.heap_setCell w _ _ k hk
  have hB2 : ∀ B w0, Below B w0 w → B ≤ g0 → Below B w0 (w.setCell ⟨g0, i.toNat, none⟩ (.string text)).drew := fun B w0 h hg => below_drew (h.setCell hg _)
  generalize (w.setCell ⟨g0, i.toNat, none⟩ (.string text)).drew = w2 at hx2 hb2 hk2 hB2 ⊢
  clear z0 z1 z2 x0 x0' y0 f0 hd0 x1
  have hbox2 := (hk2 b (Ne.symm n0)).trans hbox
  have z1 : w2.cell? ⟨b, 1, none⟩ = some (.slice (some ⟨g1, 0, none⟩) bs.length c1) := (blk_cell hbox2 1).trans rfl
  have z2 : w2.cell? ⟨b, 2, none⟩ = some (.int .i64 i) := (blk_cell hbox2 2).trans rfl
  have hc12 := (hk2 g1 (blk_ne hc1 hc0 (by decide))).trans hc1
  have hd1 : w2.drew.heap[g1]? = some (.cells cs1 4 (0, 0)) := blk_drew hc12
  have f1 := blk_frozen hd1 i.toNat
  obtain ⟨ad1, e1, x1⟩ := Kd.at_bool (Kd.R_reads' hb2).2.2 i h0 h2
  cases e1
  have y1 : w2.drew.cell? ⟨g1, i.toNat, none⟩ = some (.bool (rdOf false bs i)) := by have h := x1; rw [add_at, Nat.zero_add] at h; exact h
  go_wp2
  go_region_held (fun w' => w'.cell? ⟨b, 1, none⟩ = some (.slice (some ⟨g1, 0, none⟩) bs.length c1) ∧ w'.cell? ⟨b, 2, none⟩ = some (.int .i64 i)) (go_keep) (fail)
  have hb3 := Kd.R_drew (Kd.R_put hb2 i (!text.toList.isEmpty)).1
  have hc02 : ∃ cs, w2.heap[g0]? = some (.cells cs 9 (0, 0)) := Kd.R_typed hx2 g0 rfl
  have hx3 := Kd.R_drew (Kd.R_set hx2 hc12 (by decide) i.toNat (.bool (!text.toList.isEmpty)))
  have hk3 : ∀ k, k ≠ g1 → (w2.setCell ⟨g1, i.toNat, none⟩ (.bool (!text.toList.isEmpty))).drew.heap[k]? = w2.heap[k]? := fun k hk => Below.heap_setCell w2 _ _ k hk
  have hB3 : ∀ B w0, Below B w0 w2 → B ≤ g1 → Below B w0 (w2.setCell ⟨g1, i.toNat, none⟩ (.bool (!text.toList.isEmpty))).drew := fun B w0 h hg => below_drew (h.setCell hg _)
  go_end0
  exact ⟨rfl, (hk3 b (Ne.symm n1)).trans hbox2, hx3, hb3, fun k h0_ h1_ => (hk3 k h1_).trans (hk2 k h0_), fun B w0 h h0_ h1_ => hB3 B w0 (hB2 B w0 h h0_) h1_⟩
end Go.Proofs.YtiipailmldbpbaaDoor.Q
end
section
namespace Go.Proofs.YtiipailmldbpbaaDoor.Q
open Go.RowKit Go.Proofs.YtiipailmldbpbaaDoorW.PrintWords Go.Proofs.YtiipailmldbpbaaDoorW.PrintLast Go.Proofs.YtiipailmldbpbaaDoorW.PrintMore
attribute [local go_sem] max2_int min2_int max_two min_two max_three min_three max_four min_four
set_option linter.unusedVariables false
set_option linter.unusedSimpArgs false
open Go.Proofs.YtiipailmldbpbaaDoorS
theorem seat_info : (Tryd.prog.info? 91).map (fun i => (i.zero, i.size, i.bytes)) = some (some (.agg #[(.int .i64 0), (.int .i64 0)]), 2, 16) := by kernel_rfl
def seatCells (s : Int) : List Int → Nat → List S91 → List S91
  | [], _, l => l
  | i :: is, at_, l => seatCells s is (at_ + 1) (l.set i.toNat ⟨s, (at_ : Int)⟩)
def seatS : List S93 → Nat → List S91 × List S91 → List S91 × List S91
  | [], _, p => p
  | x :: xs, s, p => seatS xs (s + 1) (if x.f1 then (p.1, seatCells (s : Int) x.f2 0 p.2) else (seatCells (s : Int) x.f2 0 p.1, p.2))
def seatsOf (H W : Int) (bl ri be : List Bool) : List S91 × List S91 :=
  if gcheck H W bl ri be = 0 then seatS (slotsOf H W bl ri be) 0 (List.replicate bl.length ⟨-1, 0⟩, List.replicate bl.length ⟨-1, 0⟩) else ([], [])
def slots_Seats.f (H W : Int) (bl ri be : List Bool) : Option (List S91 × List S91) := some (seatsOf H W bl ri be)
theorem seatCells_length (s : Int) : ∀ (cs : List Int) (k : Nat) (l : List S91), (seatCells s cs k l).length = l.length
  | [], _, _ => rfl
  | i :: is, k, l => by simp only [seatCells]; rw [seatCells_length s is]; simp
theorem grun_mem {H W : Int} {bl ri be : List Bool} (hc : gcheck H W bl ri be = 0) {way : Int} (hw : way = 0 ∨ way = 1) : ∀ (f : Nat) (i : Int), 0 ≤ i → i < bl.length → ∀ c ∈ grun H W bl ri be way f i, 0 ≤ c ∧ c < bl.length := by
  intro f
  induction f with
  | zero => intro i h0 h1 c hm; simp only [grun, List.mem_singleton] at hm; subst hm; exact ⟨h0, h1⟩
  | succ f ih =>
    intro i h0 h1 c hm
    cases hok : (gStep H W bl ri be i way).2 with
    | false => simp only [grun, hok, Bool.false_eq_true, if_false, List.mem_singleton] at hm; subst hm; exact ⟨h0, h1⟩
    | true =>
      have hy := gStep_yes hc hw hok
      simp only [grun, hok, if_true, List.mem_cons] at hm
      rcases hm with rfl | hm
      · exact ⟨h0, h1⟩
      · exact ih _ (by omega) hy.2.2 c hm
theorem grun_length {H W : Int} {bl ri be : List Bool} (hc : gcheck H W bl ri be = 0) {way : Int} (hw : way = 0 ∨ way = 1) : ∀ (f : Nat) (i : Int), 0 ≤ i → i < bl.length → (grun H W bl ri be way f i).length + i ≤ bl.length := by
  intro f
  induction f with
  | zero => intro i h0 h1; simp only [grun, List.length_singleton]; omega
  | succ f ih =>
    intro i h0 h1
    cases hok : (gStep H W bl ri be i way).2 with
    | false => simp only [grun, hok, Bool.false_eq_true, if_false, List.length_singleton]; omega
    | true =>
      have hy := gStep_yes hc hw hok
      simp only [grun, hok, if_true, List.length_cons]
      have := ih _ (by omega) hy.2.2
      omega
theorem gslots_mem {H W : Int} {bl ri be : List Bool} (hc : gcheck H W bl ri be = 0) : ∀ (d i : Nat) (num : Int), i + d = bl.length → ∀ x ∈ gslots H W bl ri be d i num, x.2.2.length ≤ bl.length ∧ ∀ c ∈ x.2.2, 0 ≤ c ∧ c < bl.length := by
  intro d
  induction d with
  | zero => intro i num _ x hx; simp [gslots] at hx
  | succ d ih =>
    intro i num hd x hx
    have hi0 : (0 : Int) ≤ (i : Int) := Int.natCast_nonneg _
    have hi1 : (i : Int) < (bl.length : Int) := Int.ofNat_lt.2 (by omega)
    simp only [gslots, List.mem_append] at hx
    rcases hx with (hx | hx) | hx
    · split at hx
      · simp only [List.mem_singleton] at hx
        subst hx
        exact ⟨by have := grun_length hc (.inl rfl) bl.length (i : Int) hi0 hi1; simp only; omega, grun_mem hc (.inl rfl) _ _ hi0 hi1⟩
      · simp at hx
    · split at hx
      · simp only [List.mem_singleton] at hx
        subst hx
        exact ⟨by have := grun_length hc (.inr rfl) bl.length (i : Int) hi0 hi1; simp only; omega, grun_mem hc (.inr rfl) _ _ hi0 hi1⟩
      · simp at hx
    · exact ih (i + 1) _ (by omega) x hx
theorem gslots_count (H W : Int) (bl ri be : List Bool) : ∀ (d i : Nat) (num : Int), (gslots H W bl ri be d i num).length ≤ 2 * d := by
  intro d
  induction d with
  | zero => intro i num; simp [gslots]
  | succ d ih =>
    intro i num
    simp only [gslots, List.length_append]
    have := ih (i + 1) (if gbegins H W bl ri be i 0 || gbegins H W bl ri be i 1 then num + 1 else num)
    split <;> split <;> simp only [List.length_singleton, List.length_nil] <;> omega
theorem slotsOf_facts {H W : Int} {bl ri be : List Bool} (hc : gcheck H W bl ri be = 0) : (slotsOf H W bl ri be).length ≤ 2 * bl.length ∧ ∀ x ∈ slotsOf H W bl ri be, x.f2.length ≤ bl.length ∧ ∀ c ∈ x.f2, 0 ≤ c ∧ c < bl.length := by
  unfold slotsOf
  rw [if_pos hc]
  refine ⟨by rw [List.length_map]; exact gslots_count _ _ _ _ _ _ _ _, fun x hx => ?_⟩
  obtain ⟨y, hy, rfl⟩ := List.mem_map.1 hx
  exact gslots_mem hc bl.length 0 0 (by omega) y hy
theorem drop_rd {L : List S93} {m : Nat} (h : m < L.length) : L.drop m = rd_T93 L (m : Int) :: L.drop (m + 1) := by
  rw [List.drop_eq_getElem_cons h]
  simp [rd_T93, List.getD_eq_getElem?_getD, h]
theorem mem_rd {L : List S93} {m : Nat} (h : m < L.length) : rd_T93 L (m : Int) ∈ L := by
  have e : rd_T93 L (m : Int) = L[m] := by simp [rd_T93, List.getD_eq_getElem?_getD, h]
  rw [e]
  exact List.getElem_mem h
theorem drop_rdI {L : List Int} {m : Nat} (h : m < L.length) : L.drop m = rd L (m : Int) :: L.drop (m + 1) := by
  rw [List.drop_eq_getElem_cons h]
  simp [rd, List.getD_eq_getElem?_getD, h]
theorem mem_rdI {L : List Int} {m : Nat} (h : m < L.length) : rd L (m : Int) ∈ L := by
  have e : rd L (m : Int) = L[m] := by simp [rd, List.getD_eq_getElem?_getD, h]
  rw [e]
  exact List.getElem_mem h
structure SeatW (w wr : World) (b g0 g1 c0 c1 n : Nat) (vL : Value) (L : List S93) (l0 l1 : List S91) : Prop where
  r0 : Kd.R k91 91 wr w.heap.size (fun k_ => some k_ ≠ (Value.slice (some ⟨g1, 0, none⟩) n c1).ownBlock) (.slice (some ⟨g0, 0, none⟩) n c0) l0
  r1 : Kd.R k91 91 wr w.heap.size (fun k_ => some k_ ≠ (Value.slice (some ⟨g0, 0, none⟩) n c0).ownBlock) (.slice (some ⟨g1, 0, none⟩) n c1) l1
  s : Kd.S k93 93 wr w.heap.size (fun _ => True) vL L
  bx : wr.heap[b]? = some (.cells #[.slice (some ⟨g0, 0, none⟩) n c0, .slice (some ⟨g1, 0, none⟩) n c1] 108 (0, 0))
  bl : Below w.heap.size w wr
theorem SeatW.below {w wr w' : World} {b g0 g1 c0 c1 n : Nat} {vL : Value} {L : List S93} {l0 l1 : List S91} (h : SeatW w wr b g0 g1 c0 c1 n vL L l0 l1) (hb : Below wr.heap.size wr w') : SeatW w w' b g0 g1 c0 c1 n vL L l0 l1 :=
  ⟨Kd.R_below h.r0 hb, Kd.R_below h.r1 hb, Kd.S_below h.s hb, (hb.block _ (blk_lt h.bx)).trans h.bx, h.bl.trans (hb.mono h.bl.size)⟩
theorem SeatW.put0 {w wr w' : World} {b g0 g1 c0 c1 n : Nat} {vL : Value} {L : List S93} {l0 l1 l0' : List S91} (h : SeatW w wr b g0 g1 c0 c1 n vL L l0 l1) (hr : Kd.R k91 91 w' w.heap.size (fun k_ => some k_ ≠ (Value.slice (some ⟨g1, 0, none⟩) n c1).ownBlock) (.slice (some ⟨g0, 0, none⟩) n c0) l0') (hg : wr.grownBy w' (some g0)) (hb : Below w.heap.size w w') : SeatW w w' b g0 g1 c0 c1 n vL L l0' l1 :=
  ⟨hr, Kd.R_grown h.r1 hg (fun k hk => hk), Kd.S_over' (v := .slice (some ⟨g0, 0, none⟩) n c0) h.s (Kd.R_typed h.r0) (by decide) hg, blk_grown h.bx hg (Kd.R_ne h.r0 h.bx (by decide)), hb⟩
theorem SeatW.put1 {w wr w' : World} {b g0 g1 c0 c1 n : Nat} {vL : Value} {L : List S93} {l0 l1 l1' : List S91} (h : SeatW w wr b g0 g1 c0 c1 n vL L l0 l1) (hr : Kd.R k91 91 w' w.heap.size (fun k_ => some k_ ≠ (Value.slice (some ⟨g0, 0, none⟩) n c0).ownBlock) (.slice (some ⟨g1, 0, none⟩) n c1) l1') (hg : wr.grownBy w' (some g1)) (hb : Below w.heap.size w w') : SeatW w w' b g0 g1 c0 c1 n vL L l0 l1' :=
  ⟨Kd.R_grown h.r0 hg (fun k hk => hk), hr, Kd.S_over' (v := .slice (some ⟨g1, 0, none⟩) n c1) h.s (Kd.R_typed h.r1) (by decide) hg, blk_grown h.bx hg (Kd.R_ne h.r1 h.bx (by decide)), hb⟩
theorem seat_cells {w : World} {base : Nat} {ok : Nat → Prop} {g n c : Nat} {la : List S91} (h : Kd.R k91 91 w base ok (.slice (some ⟨g, 0, none⟩) n c) la) (i : Int) (h0 : 0 ≤ i) (h1 : i < n) :
    ∀ q u, ([.int .i64 (rd_T91 la i).f0, .int .i64 (rd_T91 la i).f1] : List Value)[q]? = some u → w.cell? ⟨g, i.toNat * 2 + q, none⟩ = some u := by
  obtain ⟨e, _, hC⟩ := Kd.R_reads' h
  obtain ⟨ad, eA, z0, z1⟩ := at_T91 hC i h0 (by omega)
  cases eA
  rw [add_plain] at z0 z1
  intro q u hq
  match q, hq with
  | 0, hq => cases hq; exact z0
  | 1, hq => cases hq; exact z1
set_option maxHeartbeats 8000000 in
set_option maxRecDepth 1000000 in
theorem slots_Seats.calls (H W : Int) (A2 : Option Addr) (c2 : Nat) (bl : List Bool) (A3 : Option Addr) (c3 : Nat) (ri : List Bool) (A4 : Option Addr) (c4 : Nat) (be : List Bool) (r1 r2 : List S91) (w : World)
    (h2 : Kd.C Kd.bool w A2 bl.length bl) (hc2 : bl.length ≤ c2) (h3 : Kd.C Kd.bool w A3 ri.length ri) (hc3 : ri.length ≤ c3) (h4 : Kd.C Kd.bool w A4 be.length be) (hc4 : be.length ≤ c4) (h : slots_Seats.f H W bl ri be = some (r1, r2)) :
    Calls Tryd.prog 45 #[.agg #[.int .i64 H, .int .i64 W, .slice A2 bl.length c2, .slice A3 ri.length c3, .slice A4 be.length c4]] w fun e w' => ∃ v0_ v1_ : Value, e = .returned (.tuple #[v0_, v1_]) ∧ Kd.R k91 91 w' w.heap.size (fun k_ => some k_ ≠ (v1_ : Value).ownBlock) v0_ r1 ∧ Kd.R k91 91 w' w.heap.size (fun k_ => some k_ ≠ (v0_ : Value).ownBlock) v1_ r2 ∧ Below w.heap.size w w' := by
  have hck := grid_Check_eq H W bl ri be (bl.length + 3) (Nat.le_refl _)
  by_cases hok : gcheck H W bl ri be = 0
  · have hg : GridIs H W A2 c2 bl A3 c3 ri A4 c4 be w := ⟨h2, hc2, h3, hc3, h4, hc4, hok⟩
    have hn : bl.length ≤ 256 := by have := (mul_small (gcheck_ok hok).1 (gcheck_ok hok).2.1).2; have := (gcheck_ok hok).2.2.1; omega
    rw [hok] at hck
    replace hn := Lib.hid hn
    replace hok := Lib.hid hok
    replace hck := Lib.hid hck
    replace h := Lib.hid h
    go_enter Tryd.func45, Tryd.ntmps45
    go_wp2_with (first | (go_at_call 32; refine (grid_Check.calls _ _ _ _ _ _ _ _ _ _ _ _ _ _ (Kd.C_below h2 (below_alloc (Below.refl _ _) _)) hc2 (Kd.C_below h3 (below_alloc (Below.refl _ _) _)) hc3 (Kd.C_below h4 (below_alloc (Below.refl _ _) _)) hc4 hck.out).mono ?_; rintro e w3 ⟨rfl, hb3⟩; have hBK0 : w3.heap[w.heap.size]? = some (.cells #[.int .i64 H, .int .i64 W, .slice A2 bl.length c2, .slice A3 ri.length c3, .slice A4 be.length c4] 24 (0, 0)) := (hb3.block _ (by show _ < (w.heap.push _).size; simp)).trans (new_blk _ _); have hB0 : Below w.heap.size w w3 := (below_alloc (Below.refl _ _) _).trans (hb3.mono (below_alloc (Below.refl _ _) _).size); have hBK1 : (w3.alloc (.cells #[.slice none 0 0, .slice none 0 0] 108 (0, 0))).heap[w.heap.size]? = _ := blk_alloc hBK0 _; have hbx1 : (w3.alloc (.cells #[.slice none 0 0, .slice none 0 0] 108 (0, 0))).heap[w3.heap.size]? = _ := new_blk _ _; have hB1 := below_alloc (o := .cells #[.slice none 0 0, .slice none 0 0] 108 (0, 0)) hB0; have hz0 := (GridBox.of hBK1).2.2.1; have hlt3 := blk_lt hBK0))
    clear hz0 hb3 hBK0
    have hge : w.heap.size ≤ w3.heap.size := hB0.size
    have hlt3 : Hid (w.heap.size < w3.heap.size) := Lib.hid hlt3
    replace hBK1 := Lib.hid hBK1
    replace hbx1 := Lib.hid hbx1
    replace hB1 := Lib.hid hB1
    skip
    go_loopw [16] (fun v16 wr => ∃ (m : Nat) (j : Int) (v0 v1 : Value), v16 = .int .i64 j ∧ Hid (j = m ∧ m ≤ bl.length) ∧ Hid (Kd.R k91 91 wr w.heap.size (fun k_ => True ∧ some k_ ≠ (v1 : Value).ownBlock) v0 (List.replicate m ⟨-1, 0⟩)) ∧ Hid (Kd.R k91 91 wr w.heap.size (fun k_ => True ∧ some k_ ≠ (v0 : Value).ownBlock) v1 (List.replicate m ⟨-1, 0⟩)) ∧ Hid (wr.heap[w.heap.size]? = some (.cells #[.int .i64 H, .int .i64 W, .slice A2 bl.length c2, .slice A3 ri.length c3, .slice A4 be.length c4] 24 (0, 0))) ∧ Hid (wr.heap[w3.heap.size]? = some (.cells #[v0, v1] 108 (0, 0))) ∧ Hid (Below w.heap.size w wr)) (fun v16 _ => bl.length - (intOf v16).toNat)
    case atStart => exact ⟨0, 0, _, _, rfl, Lib.hid ⟨rfl, Nat.zero_le _⟩, Lib.hid (Kd.R_nil _ _ _ _ _), Lib.hid (Kd.R_nil _ _ _ _ _), hBK1, hbx1, hB1⟩
    case round =>
      clear hBK1 hbx1 hB1
      obtain ⟨m, j, v0, v1, rfl, hm, hr0, hr1, hBK, hbx, hB⟩ := hrel
      by_cases hlt : m < bl.length
      · have tlt : decide (j < (bl.length : Int)) = true := decide_eq_true (by have := hm.out; omega)
        have z0 : wr.cell? ⟨w3.heap.size, 0, none⟩ = some v0 := (blk_cell hbx.out 0).trans rfl
        replace hlt := Lib.hid hlt
        go_wp2_with (first | ((with_reducible refine gate_builtin (b := .append) (xs := #[.tmp 19, .tmp 21]) rfl ?_); go_must (at_builtin; refine Kd.R_append k91 (w0 := w) w.heap.size rfl (.tmp 19) (.tmp 21) 87 91 (.agg #[(.int .i64 0), (.int .i64 0)]) 16 rfl Tryd.underlying87 seat_info rfl (by decide) (by decide) v0 (List.replicate m (⟨-1, 0⟩ : S91)) (⟨-1, 0⟩ : S91) [.int .i64 (-1), .int .i64 0] (fun k_ => True ∧ some k_ ≠ (v1 : Value).ownBlock) (fun _ => False) rfl rfl ?aP (fun _ hk => hk.elim) ?aF ?aO ?aB ?aS ?aL ?_; (case aP => exact k91_mkM _ _ _ (⟨-1, 0⟩ : S91)); (case aF => exact (fun k hk => ⟨trivial, fun e => by have := Kd.R_lt hr1.out k e.symm; omega⟩)); (case aO => exact hr0.out); (case aB => exact hB.out); (case aS => exact (hB.out).size); (case aL => rw [List.length_replicate]; have := hm.out; have := hn.out; omega); intro v4 w4 ho hb hg4 hat; obtain ⟨A4_, n4_, k4_, rfl⟩ := R_slice3 ho; have hbx4 := Lib.hid (blk_grown hbx.out hg4 (Kd.R_ne hr0.out hbx.out (by decide))); have hBK4 := Lib.hid (blk_grown hBK.out hg4 (Kd.R_ne hr0.out hBK.out (by decide))); have y0 : w4.cell? ⟨w3.heap.size, 0, none⟩ = some v0 := (blk_cell hbx4.out 0).trans rfl; have y1 : w4.cell? ⟨w3.heap.size, 1, none⟩ = some v1 := (blk_cell hbx4.out 1).trans rfl; have q0 := blk_frozen hbx4.out 0; have q1 := blk_frozen hbx4.out 1; have hr4 := Lib.hid (Kd.R_set ho hbx4.out (by decide) 0 (.slice A4_ n4_ k4_)); have hr14 := Lib.hid (Kd.R_set (Kd.R_after hr1.out hg4 hat) hbx4.out (by decide) 0 (.slice A4_ n4_ k4_)); have hbx5 := Lib.hid (blk_put (cs' := #[.slice A4_ n4_ k4_, v1]) hbx4.out 0 (.slice A4_ n4_ k4_) rfl); have hBK5 := Lib.hid (blk_far hBK4.out (p := ⟨w3.heap.size, 0, none⟩) (by show w.heap.size ≠ w3.heap.size; have := hlt3.out; omega) (.slice A4_ n4_ k4_)); have hB4 := Lib.hid (below_set (j := 0) (v := .slice A4_ n4_ k4_) hb hge); clear hb hg4 hat ho)) | ((with_reducible refine gate_builtin (b := .append) (xs := #[.tmp 25, .tmp 27]) rfl ?_); go_must (at_builtin; refine R_append_at k91 (w0 := w) w.heap.size w4.heap.size (by simp) (by rfl) (.tmp 25) (.tmp 27) 87 91 (.agg #[(.int .i64 0), (.int .i64 0)]) 16 rfl Tryd.underlying87 seat_info rfl (by decide) (by decide) v1 (List.replicate m (⟨-1, 0⟩ : S91)) (⟨-1, 0⟩ : S91) [.int .i64 (-1), .int .i64 0] (fun k_ => True ∧ some k_ ≠ (Value.slice A4_ n4_ k4_).ownBlock) (fun _ => False) rfl rfl ?aP (fun _ hk => hk.elim) ?aF ?aO ?aB ?aS ?aL ?_; (case aP => exact k91_mkM _ _ _ (⟨-1, 0⟩ : S91)); (case aF => exact (fun k hk => ⟨trivial, fun e => by have := Kd.R_lt hr4.out k e.symm; omega⟩)); (case aO => exact hr14.out); (case aB => exact hB4.out); (case aS => exact (hB4.out).size); (case aL => rw [List.length_replicate]; have := hm.out; have := hn.out; omega); intro v6 w6 ho6 hb6 hg6 hat6; obtain ⟨A6_, n6_, k6_, rfl⟩ := R_slice3 ho6; have hbx6 := Lib.hid (blk_grown hbx5.out hg6 (Kd.R_ne hr14.out hbx5.out (by decide))); have hBK6 := Lib.hid (blk_grown hBK5.out hg6 (Kd.R_ne hr14.out hBK5.out (by decide))); have x0 : w6.cell? ⟨w3.heap.size, 0, none⟩ = some (.slice A4_ n4_ k4_) := (blk_cell hbx6.out 0).trans rfl; have x1 : w6.cell? ⟨w3.heap.size, 1, none⟩ = some v1 := (blk_cell hbx6.out 1).trans rfl; have p0 := blk_frozen hbx6.out 0; have p1 := blk_frozen hbx6.out 1; have hr6 := Lib.hid (Kd.R_set (Kd.R_after hr4.out hg6 hat6) hbx6.out (by decide) 1 (.slice A6_ n6_ k6_)); have hr16 := Lib.hid (Kd.R_set ho6 hbx6.out (by decide) 1 (.slice A6_ n6_ k6_)); have hbx7 := Lib.hid (blk_put (cs' := #[.slice A4_ n4_ k4_, .slice A6_ n6_ k6_]) hbx6.out 1 (.slice A6_ n6_ k6_) rfl); have hBK7 := Lib.hid (blk_far hBK6.out (p := ⟨w3.heap.size, 1, none⟩) (by show w.heap.size ≠ w3.heap.size; have := hlt3.out; omega) (.slice A6_ n6_ k6_)); have hB7 := Lib.hid (below_set (j := 1) (v := .slice A6_ n6_ k6_) hb6 hge); clear hb6 hg6 hat6 ho6)))
        obtain ⟨j2, hj2⟩ : ∃ j2, wrap64 (j + 1) = j2 := ⟨_, rfl⟩
        rw [hj2]
        rw [w64 (by have := hm.out; have := hn.out; omega) (by have := hm.out; have := hn.out; omega)] at hj2
        refine ⟨⟨m + 1, j2, _, _, rfl, Lib.hid ⟨by have := hm.out; omega, hlt.out⟩, ?_, ?_, hBK7, hbx7, hB7⟩, ?_⟩
        · rw [List.replicate_succ']; exact hr6
        · rw [List.replicate_succ']; exact hr16
        · simp only [intOf]; have := hm.out; have := hlt.out; omega
      · have tlt : decide (j < (bl.length : Int)) = false := decide_eq_false (by have := hm.out; omega)
        have hmb : m = bl.length := by have := hm.out; omega
        subst hmb
        have hn1 : 0 < bl.length := by have := (mul_small (gcheck_ok hok.out).1 (gcheck_ok hok.out).2.1).1; have := (gcheck_ok hok.out).2.2.1; omega
        obtain ⟨g0, c0, rfl⟩ := R_form_n hr0.out (List.length_replicate) hn1
        obtain ⟨g1, c1, rfl⟩ := R_form_n hr1.out (List.length_replicate) hn1
        have hLf := slotsOf_facts hok.out
        obtain ⟨L, hL⟩ : ∃ L, slotsOf H W bl ri be = L := ⟨_, rfl⟩
        have hLs : slots_List.f H W bl ri be = some L := by unfold slots_List.f; rw [hL]
        have hfin : seatS (L.drop 0) 0 (List.replicate bl.length ⟨-1, 0⟩, List.replicate bl.length ⟨-1, 0⟩) = (r1, r2) := by
          have := h.out
          unfold slots_Seats.f seatsOf at this
          rw [if_pos hok.out, hL] at this
          exact Option.some.inj this
        rw [hL] at hLf
        replace hL := Lib.hid hL
        replace hLs := Lib.hid hLs
        replace hfin := Lib.hid hfin
        replace hLf := Lib.hid hLf
        clear hlt
        replace hn1 := Lib.hid hn1
        have hb0 := (GridBox.of hBK.out).1
        have hb1 := (GridBox.of hBK.out).2.1
        have hb2 := (GridBox.of hBK.out).2.2.1
        have hb3 := (GridBox.of hBK.out).2.2.2.1
        have hb4 := (GridBox.of hBK.out).2.2.2.2
        go_wp2_with (go_at_call 34; go_loud (refine (slots_List.calls _ _ _ _ _ _ _ _ _ _ _ _ _ (Kd.C_below h2 hB.out) hc2 (Kd.C_below h3 hB.out) hc3 (Kd.C_below h4 hB.out) hc4 hLs.out).mono ?_; rintro e w5 ⟨vL, rfl, hLr, hb5⟩; obtain ⟨AL, cL, rfl⟩ := Kd.S_slice hLr))
        have hSW0 : SeatW w w5 w3.heap.size g0 g1 c0 c1 bl.length (.slice AL L.length cL) L (List.replicate bl.length ⟨-1, 0⟩) (List.replicate bl.length ⟨-1, 0⟩) :=
          ⟨Kd.R_below (Kd.R_mono hr0.out (fun _ hk => hk.2)) hb5, Kd.R_below (Kd.R_mono hr1.out (fun _ hk => hk.2)) hb5, Kd.S_lower hLr hB.out.size, (hb5.block _ (blk_lt hbx.out)).trans hbx.out, hB.out.trans (hb5.mono hB.out.size)⟩
        replace hSW0 := Lib.hid hSW0
        clear hb0 hb1 hb2 hb3 hb4 hr0 hr1 hBK hbx hB hb5 hLr
        go_loopw [34] (fun v34 wr => ∃ (m : Nat) (j : Int) (l0 l1 : List S91), v34 = .int .i64 j ∧ Hid (j = m ∧ m ≤ L.length) ∧ Hid (seatS (L.drop m) m (l0, l1) = (r1, r2)) ∧ Hid (l0.length = bl.length ∧ l1.length = bl.length) ∧ Hid (SeatW w wr w3.heap.size g0 g1 c0 c1 bl.length (.slice AL L.length cL) L l0 l1)) (fun v34 _ => L.length - (intOf v34).toNat)
        case atStart => exact ⟨0, 0, _, _, rfl, Lib.hid ⟨rfl, Nat.zero_le _⟩, hfin, Lib.hid ⟨List.length_replicate, List.length_replicate⟩, hSW0⟩
        case round =>
          clear hSW0 hfin
          obtain ⟨m, j, l0, l1, rfl, hj, hss, hll, hSW⟩ := hrel
          by_cases hlt : m < L.length
          · have tlt : decide (j < (L.length : Int)) = true := decide_eq_true (by have := hj.out; omega)
            have hj0 : 0 ≤ j := by have := hj.out; omega
            have hj1 : j < (L.length : Int) := by have := hj.out; omega
            obtain ⟨ad, ecs, eA, zz⟩ : ∃ (ad : Addr) (cs : List Value), AL = some ad ∧ cs.length = 3 ∧ Kd.M k93 wr w.heap.size (fun _ => True) (rd_T93 L j) cs ∧ ∀ q u, cs[q]? = some u → wr.cell? (ad.add (j.toNat * 3 + q)) = some u := by
              cases AL with
              | none => have := (Kd.S_reads' hSW.out.s).2.2.2.2 (by omega); obtain ⟨ad, e, _⟩ := this; cases e
              | some ad => obtain ⟨c, h1, h2, h3⟩ := Kd.S_get hSW.out.s z93 j hj0 hj1; exact ⟨ad, c, rfl, h1, k93.M_mono (fun _ _ => trivial) h2, h3⟩
            subst eA
            obtain ⟨hcl, hM, hcc⟩ := zz
            obtain ⟨v2, rfl, hRc⟩ := k93_openM hM
            obtain ⟨A2, c2', rfl⟩ := Kd.R_slice hRc
            have z0 : wr.cell? (ad.add (j.toNat * 3)) = some (.int .i64 (rd_T93 L j).f0) := hcc 0 _ rfl
            have z1 : wr.cell? ⟨(ad.add (j.toNat * 3)).block, (ad.add (j.toNat * 3)).off + 1, none⟩ = some (.bool (rd_T93 L j).f1) := by rw [← add_field _ _ 1 (by omega)]; exact hcc 1 _ rfl
            have z2 : wr.cell? ⟨(ad.add (j.toNat * 3)).block, (ad.add (j.toNat * 3)).off + 2, none⟩ = some (.slice A2 (rd_T93 L j).f2.length c2') := by rw [← add_field _ _ 2 (by omega)]; exact hcc 2 _ rfl
            have hjm : rd_T93 L j ∈ L := by rw [hj.out.1]; exact mem_rd hlt
            replace hjm := Lib.hid hjm
            replace hRc := Lib.hid hRc
            clear hcl hM hcc
            replace hlt := Lib.hid hlt
            cases hdn : (rd_T93 L j).f1 with
            | false =>
              rw [hdn] at z1
              replace hdn := Lib.hid hdn
              go_wp2
              go_hide hQ
              go_loopw [44] (fun v44 wi => ∃ (k : Nat) (q : Int) (la : List S91), v44 = .int .i64 q ∧ Hid (q = k ∧ k ≤ (rd_T93 L j).f2.length) ∧ Hid (seatCells (j : Int) ((rd_T93 L j).f2.drop k) k la = seatCells (j : Int) (rd_T93 L j).f2 0 l0) ∧ Hid (la.length = bl.length) ∧ Hid (Kd.R (Kd.int .i64) 3 wi w.heap.size (fun _ => True) (.slice A2 (rd_T93 L j).f2.length c2') (rd_T93 L j).f2) ∧ Hid (SeatW w wi w3.heap.size g0 g1 c0 c1 bl.length (.slice (some ad) L.length cL) L la l1)) (fun v44 _ => (rd_T93 L j).f2.length - (intOf v44).toNat)
              case atStart => exact ⟨0, 0, l0, rfl, Lib.hid ⟨rfl, Nat.zero_le _⟩, Lib.hid (by rw [List.drop_zero]), Lib.hid hll.out.1, Lib.hid (Kd.R_alloc hRc.out _), Lib.hid (hSW.out.below (below_alloc (Below.refl _ _) _))⟩
              case round =>
                obtain ⟨k, q, la, rfl, hk, hsc, hla, hRi, hSi⟩ := hrel
                by_cases hkl : k < (rd_T93 L j).f2.length
                · have tk : decide (q < ((rd_T93 L j).f2.length : Int)) = true := decide_eq_true (by have := hk.out; omega)
                  have hq0 : 0 ≤ q := by have := hk.out; omega
                  have hq1 : q < ((rd_T93 L j).f2.length : Int) := by have := hk.out; omega
                  obtain ⟨adc, eA, zc⟩ := Kd.at_int (Kd.R_reads' hRi.out).2.2 q hq0 hq1
                  cases eA
                  have y0 : wr.cell? ⟨w3.heap.size, 0, none⟩ = some (.slice (some ⟨g0, 0, none⟩) bl.length c0) := (blk_cell hSi.out.bx 0).trans rfl
                  have y1 : wr.cell? ⟨w3.heap.size, 1, none⟩ = some (.slice (some ⟨g1, 0, none⟩) bl.length c1) := (blk_cell hSi.out.bx 1).trans rfl
                  have hci : 0 ≤ rd (rd_T93 L j).f2 q ∧ rd (rd_T93 L j).f2 q < bl.length := by
                    rw [hk.out.1]; exact (hLf.out.2 _ hjm.out).2 _ (mem_rdI hkl)
                  obtain ⟨ci, hcid⟩ : ∃ ci, rd (rd_T93 L j).f2 q = ci := ⟨_, rfl⟩
                  rw [hcid] at zc hci
                  obtain ⟨hci0, hci1⟩ := hci
                  have tc0 : decide (0 ≤ ci) = true := decide_eq_true hci0
                  have tc1 : decide (ci < (bl.length : Int)) = true := decide_eq_true hci1
                  replace hcid := Lib.hid hcid
                  replace hkl := Lib.hid hkl
                  have hcc := seat_cells hSi.out.r0 ci hci0 hci1
                  replace hcc := Lib.hid hcc
                  go_wp2_with (((with_reducible refine gate_ (.store 91 (.tmp 56) (.tmp 55)) rfl ?_); go_must (refine Kd.R_store k91 (w0 := w) w.heap.size (by rfl) (by rfl) 91 (.tmp 56) (.tmp 55) (by rfl) 91 ci 0 la (⟨j, q⟩ : S91) (.agg #[.int .i64 j, .int .i64 q]) [.int .i64 j, .int .i64 q] [.int .i64 (rd_T91 la ci).f0, .int .i64 (rd_T91 la ci).f1] (fun k_ => some k_ ≠ (Value.slice (some ⟨g1, 0, none⟩) bl.length c1).ownBlock) (fun _ => False) (o' := ci.toNat * 2) (by rfl) (by rfl) (by rfl) (by rfl) (by kernel_rfl) (by simp [Value.oneCell']) hSi.out.r0 hci0 hci1 (by rfl) hcc.out (Nat.le_refl 2) (k91_mkM _ _ _ (⟨j, q⟩ : S91)) (fun _ hk => hk.elim) hSi.out.bl ?_; intro w7 hr7 hb7 hg7; have hS7 := Lib.hid (hSi.out.put0 hr7 hg7 hb7); have hc7 := Lib.hid (Kd.R_over' (v := .slice (some ⟨g0, 0, none⟩) bl.length c0) hRi.out (Kd.R_typed hSi.out.r0) (by decide) hg7); clear hr7 hb7 hg7)))
                  obtain ⟨q2, hq2⟩ : ∃ q2, wrap64 (q + 1) = q2 := ⟨_, rfl⟩
                  rw [hq2]
                  rw [w64 (by omega) (by have := (hLf.out.2 _ hjm.out).1; have := hn.out; omega)] at hq2
                  refine ⟨⟨k + 1, q2, _, rfl, Lib.hid ⟨by have := hk.out; omega, hkl.out⟩, Lib.hid ?_, Lib.hid ?_, hc7, hS7⟩, ?_⟩
                  · rw [← hsc.out, drop_rdI hkl.out, ← hk.out.1, hcid.out]
                    simp only [seatCells]
                    rw [← hk.out.1]
                  · rw [List.length_set]; exact hla.out
                  · simp only [intOf]; have := hk.out; have := hkl.out; omega
                · have tk : decide (q < ((rd_T93 L j).f2.length : Int)) = false := decide_eq_false (by have := hk.out; omega)
                  have hkE : k = (rd_T93 L j).f2.length := by have := hk.out; omega
                  have hsE := hsc.out
                  rw [hkE, List.drop_length] at hsE
                  simp only [seatCells] at hsE
                  replace hsE := Lib.hid hsE
                  go_wp2
                  subst hQ
                  go_wp2
                  obtain ⟨j2, hj2⟩ : ∃ j2, wrap64 (j + 1) = j2 := ⟨_, rfl⟩
                  rw [hj2]
                  rw [w64 (by omega) (by have := hLf.out.1; have := hn.out; omega)] at hj2
                  refine ⟨⟨m + 1, j2, _, _, rfl, Lib.hid ⟨by have := hj.out; omega, hlt.out⟩, Lib.hid ?_, Lib.hid ⟨hla.out, hll.out.2⟩, hSi⟩, ?_⟩
                  · rw [← hss.out, drop_rd hlt.out, ← hj.out.1]
                    simp only [seatS]
                    rw [hdn.out, hsE.out, hj.out.1]
                    rfl
                  · simp only [intOf]; have := hj.out; have := hlt.out; omega
            | true =>
              rw [hdn] at z1
              replace hdn := Lib.hid hdn
              go_wp2
              go_hide hQ
              go_loopw [44] (fun v44 wi => ∃ (k : Nat) (q : Int) (la : List S91), v44 = .int .i64 q ∧ Hid (q = k ∧ k ≤ (rd_T93 L j).f2.length) ∧ Hid (seatCells (j : Int) ((rd_T93 L j).f2.drop k) k la = seatCells (j : Int) (rd_T93 L j).f2 0 l1) ∧ Hid (la.length = bl.length) ∧ Hid (Kd.R (Kd.int .i64) 3 wi w.heap.size (fun _ => True) (.slice A2 (rd_T93 L j).f2.length c2') (rd_T93 L j).f2) ∧ Hid (SeatW w wi w3.heap.size g0 g1 c0 c1 bl.length (.slice (some ad) L.length cL) L l0 la)) (fun v44 _ => (rd_T93 L j).f2.length - (intOf v44).toNat)
              case atStart => exact ⟨0, 0, l1, rfl, Lib.hid ⟨rfl, Nat.zero_le _⟩, Lib.hid (by rw [List.drop_zero]), Lib.hid hll.out.2, Lib.hid (Kd.R_alloc hRc.out _), Lib.hid (hSW.out.below (below_alloc (Below.refl _ _) _))⟩
              case round =>
                obtain ⟨k, q, la, rfl, hk, hsc, hla, hRi, hSi⟩ := hrel
                by_cases hkl : k < (rd_T93 L j).f2.length
                · have tk : decide (q < ((rd_T93 L j).f2.length : Int)) = true := decide_eq_true (by have := hk.out; omega)
                  have hq0 : 0 ≤ q := by have := hk.out; omega
                  have hq1 : q < ((rd_T93 L j).f2.length : Int) := by have := hk.out; omega
                  obtain ⟨adc, eA, zc⟩ := Kd.at_int (Kd.R_reads' hRi.out).2.2 q hq0 hq1
                  cases eA
                  have y0 : wr.cell? ⟨w3.heap.size, 0, none⟩ = some (.slice (some ⟨g0, 0, none⟩) bl.length c0) := (blk_cell hSi.out.bx 0).trans rfl
                  have y1 : wr.cell? ⟨w3.heap.size, 1, none⟩ = some (.slice (some ⟨g1, 0, none⟩) bl.length c1) := (blk_cell hSi.out.bx 1).trans rfl
                  have hci : 0 ≤ rd (rd_T93 L j).f2 q ∧ rd (rd_T93 L j).f2 q < bl.length := by
                    rw [hk.out.1]; exact (hLf.out.2 _ hjm.out).2 _ (mem_rdI hkl)
                  obtain ⟨ci, hcid⟩ : ∃ ci, rd (rd_T93 L j).f2 q = ci := ⟨_, rfl⟩
                  rw [hcid] at zc hci
                  obtain ⟨hci0, hci1⟩ := hci
                  have tc0 : decide (0 ≤ ci) = true := decide_eq_true hci0
                  have tc1 : decide (ci < (bl.length : Int)) = true := decide_eq_true hci1
                  replace hcid := Lib.hid hcid
                  replace hkl := Lib.hid hkl
                  have hcc := seat_cells hSi.out.r1 ci hci0 hci1
                  replace hcc := Lib.hid hcc
                  go_wp2_with (((with_reducible refine gate_ (.store 91 (.tmp 56) (.tmp 55)) rfl ?_); go_must (refine Kd.R_store k91 (w0 := w) w.heap.size (by rfl) (by rfl) 91 (.tmp 56) (.tmp 55) (by rfl) 91 ci 0 la (⟨j, q⟩ : S91) (.agg #[.int .i64 j, .int .i64 q]) [.int .i64 j, .int .i64 q] [.int .i64 (rd_T91 la ci).f0, .int .i64 (rd_T91 la ci).f1] (fun k_ => some k_ ≠ (Value.slice (some ⟨g0, 0, none⟩) bl.length c0).ownBlock) (fun _ => False) (o' := ci.toNat * 2) (by rfl) (by rfl) (by rfl) (by rfl) (by kernel_rfl) (by simp [Value.oneCell']) hSi.out.r1 hci0 hci1 (by rfl) hcc.out (Nat.le_refl 2) (k91_mkM _ _ _ (⟨j, q⟩ : S91)) (fun _ hk => hk.elim) hSi.out.bl ?_; intro w7 hr7 hb7 hg7; have hS7 := Lib.hid (hSi.out.put1 hr7 hg7 hb7); have hc7 := Lib.hid (Kd.R_over' (v := .slice (some ⟨g1, 0, none⟩) bl.length c1) hRi.out (Kd.R_typed hSi.out.r1) (by decide) hg7); clear hr7 hb7 hg7)))
                  obtain ⟨q2, hq2⟩ : ∃ q2, wrap64 (q + 1) = q2 := ⟨_, rfl⟩
                  rw [hq2]
                  rw [w64 (by omega) (by have := (hLf.out.2 _ hjm.out).1; have := hn.out; omega)] at hq2
                  refine ⟨⟨k + 1, q2, _, rfl, Lib.hid ⟨by have := hk.out; omega, hkl.out⟩, Lib.hid ?_, Lib.hid ?_, hc7, hS7⟩, ?_⟩
                  · rw [← hsc.out, drop_rdI hkl.out, ← hk.out.1, hcid.out]
                    simp only [seatCells]
                    rw [← hk.out.1]
                  · rw [List.length_set]; exact hla.out
                  · simp only [intOf]; have := hk.out; have := hkl.out; omega
                · have tk : decide (q < ((rd_T93 L j).f2.length : Int)) = false := decide_eq_false (by have := hk.out; omega)
                  have hkE : k = (rd_T93 L j).f2.length := by have := hk.out; omega
                  have hsE := hsc.out
                  rw [hkE, List.drop_length] at hsE
                  simp only [seatCells] at hsE
                  replace hsE := Lib.hid hsE
                  go_wp2
                  subst hQ
                  go_wp2
                  obtain ⟨j2, hj2⟩ : ∃ j2, wrap64 (j + 1) = j2 := ⟨_, rfl⟩
                  rw [hj2]
                  rw [w64 (by omega) (by have := hLf.out.1; have := hn.out; omega)] at hj2
                  refine ⟨⟨m + 1, j2, _, _, rfl, Lib.hid ⟨by have := hj.out; omega, hlt.out⟩, Lib.hid ?_, Lib.hid ⟨hll.out.1, hla.out⟩, hSi⟩, ?_⟩
                  · rw [← hss.out, drop_rd hlt.out, ← hj.out.1]
                    simp only [seatS]
                    rw [hdn.out, hsE.out, hj.out.1]
                    rfl
                  · simp only [intOf]; have := hj.out; have := hlt.out; omega
          · have tlt : decide (j < (L.length : Int)) = false := decide_eq_false (by have := hj.out; omega)
            have hmE : m = L.length := by have := hj.out; omega
            have hsE := hss.out
            rw [hmE, List.drop_length] at hsE
            simp only [seatS, Prod.mk.injEq] at hsE
            obtain ⟨rfl, rfl⟩ := hsE
            have y0 : wr.cell? ⟨w3.heap.size, 0, none⟩ = some (.slice (some ⟨g0, 0, none⟩) bl.length c0) := (blk_cell hSW.out.bx 0).trans rfl
            have y1 : wr.cell? ⟨w3.heap.size, 1, none⟩ = some (.slice (some ⟨g1, 0, none⟩) bl.length c1) := (blk_cell hSW.out.bx 1).trans rfl
            go_wp2
            go_quiet (fail)
            go_wp2
            go_ret2
            exact ⟨_, _, rfl, Kd.R_drewN hSW.out.r0 _, Kd.R_drewN hSW.out.r1 _, pw_below_drewN hSW.out.bl _⟩
  · have hrr : r1 = [] ∧ r2 = [] := by
      unfold slots_Seats.f seatsOf at h
      rw [if_neg hok] at h
      simp only [Option.some.injEq, Prod.mk.injEq] at h
      exact ⟨h.1.symm, h.2.symm⟩
    obtain ⟨rfl, rfl⟩ := hrr
    clear h
    obtain ⟨er, her⟩ : ∃ e, gcheck H W bl ri be = e := ⟨_, rfl⟩
    rw [her] at hck hok
    have hne : (er != 0) = true := bne_iff_ne.2 hok
    replace hck := Lib.hid hck
    replace her := Lib.hid her
    go_enter Tryd.func45, Tryd.ntmps45
    go_wp2_with (first | (go_at_call 32; refine (grid_Check.calls _ _ _ _ _ _ _ _ _ _ _ _ _ _ (Kd.C_below h2 (below_alloc (Below.refl _ _) _)) hc2 (Kd.C_below h3 (below_alloc (Below.refl _ _) _)) hc3 (Kd.C_below h4 (below_alloc (Below.refl _ _) _)) hc4 hck.out).mono ?_; rintro e w3 ⟨rfl, hb3⟩))
    go_ret2
    exact ⟨_, _, rfl, Kd.R_nil _ _ _ _ _, Kd.R_nil _ _ _ _ _, (below_alloc (Below.refl _ _) _).trans (hb3.mono (below_alloc (Below.refl _ _) _).size)⟩
end Go.Proofs.YtiipailmldbpbaaDoor.Q
end
