/-
  SheetRight, WHERE WHAT IT READS IS OF BULK AT MOST 1048576: IT RETURNS true (whatever is done, the sheet stays right; done just if nothing is wrong and nothing lacks), AND ITS ARGUMENTS READ AS THEY DID. The card ties utf8's two tables to the program's text.
-/
import Derived.Test.YtiipailmldbpbaaDoorCards
import Derived.Test.YtiipailmldbpbaaDoorTie
import Derived.Test.YtiipailmldbpbaaDoorAc15
import Derived.Test.YtiipailmldbpbaaDoorAc17
set_option linter.unusedVariables false
set_option linter.unusedSimpArgs false
section
namespace Go.Proofs.YtiipailmldbpbaaDoor.Q
open Go.RowKit Go.Proofs.YtiipailmldbpbaaDoorW.PrintWords Go.Proofs.YtiipailmldbpbaaDoorW.PrintLast Go.Proofs.YtiipailmldbpbaaDoorW.PrintMore
set_option linter.unusedVariables false
set_option linter.unusedSimpArgs false
open Go.Proofs.YtiipailmldbpbaaDoorS
def wrongs (cells sc : List ByteArray) : Nat → Nat → List Int
  | 0, _ => []
  | d + 1, i => if (rdOf ByteArray.empty sc (i : Int)).toList = [] then wrongs cells sc d (i + 1) else if (rdOf ByteArray.empty cells (i : Int)).toList = [] then wrongs cells sc d (i + 1) else if (rdOf ByteArray.empty sc (i : Int)).toList = (rdOf ByteArray.empty cells (i : Int)).toList then wrongs cells sc d (i + 1) else (i : Int) :: wrongs cells sc d (i + 1)
theorem sheet_Wrong_l0_eq (title : ByteArray) (H W : Int) (bl ri be : List Bool) (cells clues sc : List ByteArray) (hl : cells.length ≤ 1048576) (hb : sc.length = cells.length) :
    ∀ (d i k : Nat) (x : List Int), i + d = sc.length → d < k → x.length ≤ i → sheet_Wrong.l0 k x sc (sc.length : Int) (i : Int) title H W bl ri be cells clues = some (x ++ wrongs cells sc d i, 0) := by
  intro d
  induction d with
  | zero =>
    intro i k x hi hk hx
    obtain ⟨k, rfl⟩ : ∃ m, k = m + 1 := ⟨k - 1, by omega⟩
    simp only [sheet_Wrong.l0]
    rw [if_neg (by omega)]
    simp [wrongs]
  | succ d ih =>
    intro i k x hi hk hx
    obtain ⟨k, rfl⟩ : ∃ m, k = m + 1 := ⟨k - 1, by omega⟩
    have hih := fun y (hy : y.length ≤ i + 1) => ih (i + 1) k y (by omega) (by omega) hy
    simp only [sheet_Wrong.l0]
    rw [if_pos (by omega), if_pos (by omega), if_pos (by omega), w64 (by omega) (by omega)]
    simp only [wrongs]
    by_cases h0 : (rdOf ByteArray.empty sc (i : Int)).toList = ([] : List UInt8)
    · rw [if_pos h0, if_pos h0]
      exact hih x (by omega)
    · rw [if_neg h0, if_neg h0, if_pos (by omega)]
      by_cases h1 : (rdOf ByteArray.empty cells (i : Int)).toList = ([] : List UInt8)
      · rw [if_pos h1, if_pos h1]
        exact hih x (by omega)
      · rw [if_neg h1, if_neg h1]
        by_cases h2 : (rdOf ByteArray.empty sc (i : Int)).toList = (rdOf ByteArray.empty cells (i : Int)).toList
        · rw [if_pos h2, if_pos h2]
          exact hih x (by omega)
        · rw [if_neg h2, if_neg h2, if_pos (by omega)]
          have := hih (x ++ [(i : Int)]) (by simp only [List.length_append, List.length_singleton]; omega)
          rw [List.append_assoc] at this
          exact this
def swrong (title : ByteArray) (H W : Int) (bl ri be : List Bool) (cells clues sc : List ByteArray) (ss : List Bool) (at_ : Int) : List Int × Int :=
  if scheck title H W bl ri be cells clues sc ss at_ = 0 then (wrongs cells sc sc.length 0, 0) else ([], scheck title H W bl ri be cells clues sc ss at_)
theorem sheet_Wrong_eq (title : ByteArray) (H W : Int) (bl ri be : List Bool) (cells clues sc : List ByteArray) (ss : List Bool) (at_ : Int) (dn : Bool) (hz : PuzS title cells clues) (hsc : Small sc) (k : Nat) (hk : 2 * bl.length + cells.length + sc.length + clues.length + 12 ≤ k) :
    sheet_Wrong.f k title H W bl ri be cells clues sc ss at_ dn = some (swrong title H W bl ri be cells clues sc ss at_) := by
  unfold sheet_Wrong.f swrong
  rw [sheet_Check_eq _ _ _ _ _ _ _ _ _ _ _ _ hz.t hz.s hz.c hsc hz.l hz.m _ hk]
  simp only [Option.bind_some]
  by_cases h : scheck title H W bl ri be cells clues sc ss at_ = 0
  · rw [if_pos h, if_pos h]
    have := sheet_Wrong_l0_eq title H W bl ri be cells clues sc hz.l (scheck_ok h).2.1 sc.length 0 k [] (by omega) (by omega) (Nat.le_refl _)
    exact this
  · rw [if_neg h, if_neg h]
section
variable {title : ByteArray} {H W : Int} {A2 : Option Addr} {c2 : Nat} {bl : List Bool} {A3 : Option Addr} {c3 : Nat} {ri : List Bool} {A4 : Option Addr} {c4 : Nat} {be : List Bool} {A5 : Option Addr} {c5 : Nat} {cells : List ByteArray} {A6 : Option Addr} {c6 : Nat} {clues : List ByteArray} {A7 : Option Addr} {c7 : Nat} {sc : List ByteArray} {A8 : Option Addr} {c8 : Nat} {ss : List Bool} {at_ : Int} {dn : Bool} {w : World}
theorem start_calls (hT : Tabs w) (hP : PuzR A2 c2 bl A3 c3 ri A4 c4 be A5 c5 cells A6 c6 clues w) (hz : PuzS title cells clues) :
    Calls Tryd.prog 8 #[.agg #[.string title, .int .i64 H, .int .i64 W, .slice A2 bl.length c2, .slice A3 ri.length c3, .slice A4 be.length c4, .slice A5 cells.length c5, .slice A6 clues.length c6]] w (DoPost w (sstart title H W bl ri be cells clues)) := by
  have e := sheet_Start_eq title H W bl ri be cells clues hz.t hz.s hz.c hz.l hz.m _ (Nat.le_refl _)
  obtain ⟨l, b, i, d, er, hr⟩ : ∃ l b i d er, sstart title H W bl ri be cells clues = (l, b, i, d, er) := ⟨_, _, _, _, _, rfl⟩
  rw [hr] at e ⊢
  exact sheet_Start.calls _ _ _ _ _ _ _ _ _ _ _ _ _ _ _ _ _ _ _ _ _ _ _ _ _ hP.r2 hP.k2 hP.r3 hP.k3 hP.r4 hP.k4 hP.r5 hP.k5 hP.r6 hP.k6 hT e
theorem check_calls (hT : Tabs w) (hP : PuzR A2 c2 bl A3 c3 ri A4 c4 be A5 c5 cells A6 c6 clues w) (hS : ShtR A7 c7 sc A8 c8 ss w) (hz : PuzS title cells clues) (hzs : Small sc) :
    Calls Tryd.prog 13 #[.agg #[.string title, .int .i64 H, .int .i64 W, .slice A2 bl.length c2, .slice A3 ri.length c3, .slice A4 be.length c4, .slice A5 cells.length c5, .slice A6 clues.length c6], .agg #[.slice A7 sc.length c7, .slice A8 ss.length c8, .int .i64 at_, .bool dn]] w fun e w' => e = .returned (.int .i64 (scheck title H W bl ri be cells clues sc ss at_)) ∧ Below w.heap.size w w' :=
  sheet_Check.calls _ _ _ _ _ _ _ _ _ _ _ _ _ _ _ _ _ _ _ _ _ _ _ _ _ _ _ _ _ hP.r2 hP.k2 hP.r3 hP.k3 hP.r4 hP.k4 hP.r5 hP.k5 hP.r6 hP.k6 hS.r7 hS.k7 hS.r8 hS.k8 hT (sheet_Check_eq title H W bl ri be cells clues sc ss at_ dn hz.t hz.s hz.c hzs hz.l hz.m _ (Nat.le_refl _))
theorem done_calls (hT : Tabs w) (hP : PuzR A2 c2 bl A3 c3 ri A4 c4 be A5 c5 cells A6 c6 clues w) (hS : ShtR A7 c7 sc A8 c8 ss w) (hz : PuzS title cells clues) (hzs : Small sc) :
    Calls Tryd.prog 10 #[.agg #[.string title, .int .i64 H, .int .i64 W, .slice A2 bl.length c2, .slice A3 ri.length c3, .slice A4 be.length c4, .slice A5 cells.length c5, .slice A6 clues.length c6], .agg #[.slice A7 sc.length c7, .slice A8 ss.length c8, .int .i64 at_, .bool dn]] w fun e w' => e = .returned (.bool (sdone title H W bl ri be cells clues sc ss at_)) ∧ Below w.heap.size w w' :=
  sheet_Done.calls _ _ _ _ _ _ _ _ _ _ _ _ _ _ _ _ _ _ _ _ _ _ _ _ _ _ _ _ _ hP.r2 hP.k2 hP.r3 hP.k3 hP.r4 hP.k4 hP.r5 hP.k5 hP.r6 hP.k6 hS.r7 hS.k7 hS.r8 hS.k8 hT (sheet_Done_eq title H W bl ri be cells clues sc ss at_ dn hz.t hz.s hz.c hzs hz.l hz.m _ (Nat.le_refl _))
theorem wrong_calls (hT : Tabs w) (hP : PuzR A2 c2 bl A3 c3 ri A4 c4 be A5 c5 cells A6 c6 clues w) (hS : ShtR A7 c7 sc A8 c8 ss w) (hz : PuzS title cells clues) (hzs : Small sc) :
    Calls Tryd.prog 16 #[.agg #[.string title, .int .i64 H, .int .i64 W, .slice A2 bl.length c2, .slice A3 ri.length c3, .slice A4 be.length c4, .slice A5 cells.length c5, .slice A6 clues.length c6], .agg #[.slice A7 sc.length c7, .slice A8 ss.length c8, .int .i64 at_, .bool dn]] w fun e w' => ∃ v : Value, e = .returned (.tuple #[v, .int .i64 (swrong title H W bl ri be cells clues sc ss at_).2]) ∧ Kd.R (Kd.int .i64) 3 w' w.heap.size (fun _ => True) v (swrong title H W bl ri be cells clues sc ss at_).1 ∧ Below w.heap.size w w' := by
  have e := sheet_Wrong_eq title H W bl ri be cells clues sc ss at_ dn hz hzs _ (Nat.le_refl _)
  obtain ⟨l, er, hr⟩ : ∃ l er, swrong title H W bl ri be cells clues sc ss at_ = (l, er) := ⟨_, _, rfl⟩
  rw [hr] at e ⊢
  exact sheet_Wrong.calls _ _ _ _ _ _ _ _ _ _ _ _ _ _ _ _ _ _ _ _ _ _ _ _ _ _ _ _ _ _ hP.r2 hP.k2 hP.r3 hP.k3 hP.r4 hP.k4 hP.r5 hP.k5 hP.r6 hP.k6 hS.r7 hS.k7 hS.r8 hS.k8 hT e
end
theorem letter_small {x : ByteArray} (h : uletter x = true) : x.size ≤ 12 := by
  have hc := letter_count h
  have e := letter_fold h
  have e2 : x.size = ((urunes x).flatMap (upiece false)).length := by
    have e3 : (ufold x false).size = ((urunes x).flatMap (upiece false)).length := by unfold ufold; show (List.toArray _).size = _; rw [List.size_toArray]
    rw [e] at e3; exact e3
  have hl : (urunes x).length = ucount x := by simp [ucount, urunes]
  have hp : ∀ rs : List Int, (rs.flatMap (upiece false)).length ≤ 4 * rs.length := by
    intro rs
    induction rs with
    | nil => simp
    | cons r rs ih =>
      have : (upiece false r).length ≤ 4 := by
        unfold upiece
        split
        · simp only [Bool.false_eq_true, if_false]
          rw [Array.length_toList]
          exact encode_size (uupper r)
        · simp
      simp only [List.flatMap_cons, List.length_append, List.length_cons]
      omega
  have := hp (urunes x)
  omega
theorem Rsheet.small {bl : List Bool} {cells sc : List ByteArray} {ss : List Bool} {at_ : Int} (h : Rsheet bl cells sc ss at_) : Small sc := fun s hs => by
  obtain ⟨j, hj, rfl⟩ := List.getElem_of_mem hs
  have e : rdOf ByteArray.empty sc (j : Int) = sc[j] := by simp [rdOf, List.getD_eq_getElem?_getD, hj]
  have hl := pbad1_letter (h.good j hj)
  rw [e] at hl
  rcases hl with h0 | hl
  · have h1 : sc[j].data.toList.length = 0 := by rw [← ByteArray.toList_eq, h0]; rfl
    rw [Array.length_toList] at h1
    have h2 : sc[j].size = 0 := h1
    omega
  · have := letter_small hl.2
    omega
theorem slacks_iff (cells sc : List ByteArray) : ∀ (d i : Nat), slacks cells sc d i = false ↔ ∀ j : Nat, i ≤ j → j < i + d → (rdOf ByteArray.empty cells (j : Int)).toList ≠ [] → (rdOf ByteArray.empty sc (j : Int)).toList = (rdOf ByteArray.empty cells (j : Int)).toList
  | 0, i => by simp only [slacks, true_iff]; intro j h1 h2; omega
  | d + 1, i => by
    simp only [slacks, Bool.or_eq_false_iff, slacks_iff cells sc d (i + 1)]
    constructor
    · intro ⟨h0, h⟩ j h1 h2 h3
      by_cases e : j = i
      · subst e
        rw [toList_nil.2 h3] at h0
        simpa using h0
      · exact h j (by omega) (by omega) h3
    · intro h
      refine ⟨?_, fun j h1 h2 => h j (by omega) (by omega)⟩
      by_cases e : (rdOf ByteArray.empty cells (i : Int)).toList = []
      · rw [e]; rfl
      · rw [toList_nil.2 e, decide_eq_true (h i (by omega) (by omega) e)]; rfl
def lacks (cells sc : List ByteArray) : Nat → Bool
  | 0 => false
  | i + 1 => lacks cells sc i || (!(rdOf ByteArray.empty cells (i : Int)).toList.isEmpty && (rdOf ByteArray.empty sc (i : Int)).toList.isEmpty)
theorem lacks_iff (cells sc : List ByteArray) : ∀ n : Nat, lacks cells sc n = false ↔ ∀ j : Nat, j < n → (rdOf ByteArray.empty cells (j : Int)).toList ≠ [] → (rdOf ByteArray.empty sc (j : Int)).toList ≠ []
  | 0 => by simp [lacks]
  | n + 1 => by
    simp only [lacks, Bool.or_eq_false_iff, lacks_iff cells sc n]
    constructor
    · intro ⟨h, h0⟩ j hj h3
      by_cases e : j = n
      · subst e
        rw [toList_nil.2 h3] at h0
        intro h4
        rw [h4] at h0
        exact absurd h0 (by decide)
      · exact h j (by omega) h3
    · intro h
      refine ⟨fun j hj => h j (by omega), ?_⟩
      by_cases e : (rdOf ByteArray.empty cells (n : Int)).toList = []
      · rw [e]; rfl
      · rw [toList_nil.2 (h n (by omega) e), Bool.and_false]
theorem wrongs_iff (cells sc : List ByteArray) : ∀ (d i : Nat), wrongs cells sc d i = [] ↔ ∀ j : Nat, i ≤ j → j < i + d → (rdOf ByteArray.empty sc (j : Int)).toList ≠ [] → (rdOf ByteArray.empty cells (j : Int)).toList ≠ [] → (rdOf ByteArray.empty sc (j : Int)).toList = (rdOf ByteArray.empty cells (j : Int)).toList
  | 0, i => by simp only [wrongs, true_iff]; intro j h1 h2; omega
  | d + 1, i => by
    have ih := wrongs_iff cells sc d (i + 1)
    have key : ∀ (p : Prop), ((∀ j : Nat, i + 1 ≤ j → j < i + 1 + d → (rdOf ByteArray.empty sc (j : Int)).toList ≠ [] → (rdOf ByteArray.empty cells (j : Int)).toList ≠ [] → (rdOf ByteArray.empty sc (j : Int)).toList = (rdOf ByteArray.empty cells (j : Int)).toList) ∧ ((rdOf ByteArray.empty sc (i : Int)).toList ≠ [] → (rdOf ByteArray.empty cells (i : Int)).toList ≠ [] → (rdOf ByteArray.empty sc (i : Int)).toList = (rdOf ByteArray.empty cells (i : Int)).toList)) ↔ ∀ j : Nat, i ≤ j → j < i + (d + 1) → (rdOf ByteArray.empty sc (j : Int)).toList ≠ [] → (rdOf ByteArray.empty cells (j : Int)).toList ≠ [] → (rdOf ByteArray.empty sc (j : Int)).toList = (rdOf ByteArray.empty cells (j : Int)).toList := by
      intro _
      constructor
      · intro ⟨h, h0⟩ j h1 h2
        by_cases e : j = i
        · subst e; exact h0
        · exact h j (by omega) (by omega)
      · intro h
        exact ⟨fun j h1 h2 => h j (by omega) (by omega), h i (by omega) (by omega)⟩
    rw [← key True]
    simp only [wrongs]
    by_cases h0 : (rdOf ByteArray.empty sc (i : Int)).toList = []
    · rw [if_pos h0, ih]
      exact ⟨fun h => ⟨h, fun h1 => absurd h0 h1⟩, fun h => h.1⟩
    · rw [if_neg h0]
      by_cases h1 : (rdOf ByteArray.empty cells (i : Int)).toList = []
      · rw [if_pos h1, ih]
        exact ⟨fun h => ⟨h, fun _ h2 => absurd h1 h2⟩, fun h => h.1⟩
      · rw [if_neg h1]
        by_cases h2 : (rdOf ByteArray.empty sc (i : Int)).toList = (rdOf ByteArray.empty cells (i : Int)).toList
        · rw [if_pos h2, ih]
          exact ⟨fun h => ⟨h, fun _ _ => h2⟩, fun h => h.1⟩
        · rw [if_neg h2]
          exact ⟨fun h => (by cases h), fun h => absurd (h.2 h0 h1) h2⟩
theorem done_wrongs {title : ByteArray} {H W : Int} {bl ri be : List Bool} {cells clues sc : List ByteArray} {ss : List Bool} {at_ : Int} (hp : pcheck title H W bl ri be cells clues = 0) (h : Rsheet bl cells sc ss at_) :
    sdone title H W bl ri be cells clues sc ss at_ = (decide ((wrongs cells sc sc.length 0).length = 0) && !lacks cells sc cells.length) := by
  unfold sdone
  rw [decide_eq_true (h.check hp), Bool.true_and]
  cases hs : slacks cells sc cells.length 0 with
  | false =>
    have h1 := (slacks_iff cells sc cells.length 0).1 hs
    have h2 : wrongs cells sc sc.length 0 = [] := (wrongs_iff cells sc sc.length 0).2 (fun j _ hj _ h4 => h1 j (by omega) (by have := h.l; omega) h4)
    have h3 : lacks cells sc cells.length = false := (lacks_iff cells sc cells.length).2 (fun j hj h4 => by rw [h1 j (by omega) (by omega) h4]; exact h4)
    rw [h2, h3]; rfl
  | true =>
    cases h3 : lacks cells sc cells.length with
    | true => simp
    | false =>
      by_cases h2 : wrongs cells sc sc.length 0 = []
      · have := (slacks_iff cells sc cells.length 0).2 (fun j _ hj h4 => (wrongs_iff cells sc sc.length 0).1 h2 j (by omega) (by have := h.l; omega) ((lacks_iff cells sc cells.length).1 h3 j (by omega) h4) h4)
        rw [this] at hs; cases hs
      · have : ¬ (wrongs cells sc sc.length 0).length = 0 := fun e => h2 (List.eq_nil_of_length_eq_zero e)
        rw [decide_eq_false this]; rfl
end Go.Proofs.YtiipailmldbpbaaDoor.Q
end
section
namespace Go.Proofs.YtiipailmldbpbaaDoor.Q
open Go.RowKit Go.Proofs.YtiipailmldbpbaaDoorW.PrintWords Go.Proofs.YtiipailmldbpbaaDoorW.PrintLast Go.Proofs.YtiipailmldbpbaaDoorW.PrintMore
set_option linter.unusedVariables false
set_option linter.unusedSimpArgs false
open Go.Proofs.YtiipailmldbpbaaDoorS
structure SolW (w wr : World) (bs : Nat) (pc : Array Value) (bl : List Bool) (cells sc : List ByteArray) (ss : List Bool) (at_ : Int) (dn : Bool) (C0 C1 : Option Addr) (m0 m1 : Nat) : Prop where
  s : wr.heap[bs]? = some (.cells #[.slice C0 sc.length m0, .slice C1 ss.length m1, .int .i64 at_, .bool dn] 30 (0, 0))
  p : wr.heap[w.heap.size]? = some (.cells pc 27 (0, 0))
  x : Kd.R Kd.string 9 wr w.heap.size (fun _ => True) (.slice C0 sc.length m0) sc
  b : Kd.R Kd.bool 4 wr w.heap.size (fun _ => True) (.slice C1 ss.length m1) ss
  bw : Below w.heap.size w wr
  r : Rsheet bl cells sc ss at_
theorem SolW.rows {w wr : World} {bs : Nat} {pc : Array Value} {bl : List Bool} {cells sc : List ByteArray} {ss : List Bool} {at_ : Int} {dn : Bool} {C0 C1 : Option Addr} {m0 m1 : Nat} (h : SolW w wr bs pc bl cells sc ss at_ dn C0 C1 m0 m1) : ShtR C0 m0 sc C1 m1 ss wr :=
  ⟨(Kd.R_reads' h.x).2.2, (Kd.R_reads' h.x).2.1, (Kd.R_reads' h.b).2.2, (Kd.R_reads' h.b).2.1⟩
theorem SolW.put {w wr : World} {bs : Nat} {pc : Array Value} {bl : List Bool} {cells sc2 : List ByteArray} {ss2 : List Bool} {at2 : Int} {dn2 : Bool} {D0 D1 : Option Addr} {n0 n1 : Nat} (hbs : w.heap.size < bs) (c0 c1 c2 c3 : Value)
    (hs : wr.heap[bs]? = some (.cells #[c0, c1, c2, c3] 30 (0, 0))) (hp : wr.heap[w.heap.size]? = some (.cells pc 27 (0, 0))) (hx : Kd.R Kd.string 9 wr w.heap.size (fun _ => True) (.slice D0 sc2.length n0) sc2) (hb : Kd.R Kd.bool 4 wr w.heap.size (fun _ => True) (.slice D1 ss2.length n1) ss2) (hB : Below w.heap.size w wr) (hr : Rsheet bl cells sc2 ss2 at2) :
    SolW w (put4 wr bs (.slice D0 sc2.length n0) (.slice D1 ss2.length n1) (.int .i64 at2) (.bool dn2)) bs pc bl cells sc2 ss2 at2 dn2 D0 D1 n0 n1 := by
  have F := put4_facts hs (.slice D0 sc2.length n0) (.slice D1 ss2.length n1) (.int .i64 at2) (.bool dn2)
  exact ⟨F.1, (F.2.1 _ (by omega)).trans hp, R_of_heap hx hs (by decide) F.2.1, R_of_heap hb hs (by decide) F.2.1, F.2.2 _ _ hB (by omega), hr⟩
theorem SolW.alloc {w wr : World} {bs : Nat} {pc : Array Value} {bl : List Bool} {cells sc : List ByteArray} {ss : List Bool} {at_ : Int} {dn : Bool} {C0 C1 : Option Addr} {m0 m1 : Nat} (h : SolW w wr bs pc bl cells sc ss at_ dn C0 C1 m0 m1) (o : Obj) : SolW w (wr.alloc o) bs pc bl cells sc ss at_ dn C0 C1 m0 m1 :=
  ⟨blk_alloc h.s o, blk_alloc h.p o, Kd.R_alloc h.x o, Kd.R_alloc h.b o, below_alloc h.bw o, h.r⟩
theorem SolW.drew {w wr : World} {bs : Nat} {pc : Array Value} {bl : List Bool} {cells sc : List ByteArray} {ss : List Bool} {at_ : Int} {dn : Bool} {C0 C1 : Option Addr} {m0 m1 : Nat} (h : SolW w wr bs pc bl cells sc ss at_ dn C0 C1 m0 m1) : SolW w wr.drew bs pc bl cells sc ss at_ dn C0 C1 m0 m1 :=
  ⟨h.s, h.p, Kd.R_drew h.x, Kd.R_drew h.b, below_drew h.bw, h.r⟩
end Go.Proofs.YtiipailmldbpbaaDoor.Q
end
section
namespace Go.Proofs.YtiipailmldbpbaaDoor.Q
open Go.RowKit Go.Proofs.YtiipailmldbpbaaDoorW.PrintWords Go.Proofs.YtiipailmldbpbaaDoorW.PrintLast Go.Proofs.YtiipailmldbpbaaDoorW.PrintMore
set_option linter.unusedVariables false
set_option linter.unusedSimpArgs false
open Go.Proofs.YtiipailmldbpbaaDoorS
theorem SolW.below {w wr w2 : World} {bs : Nat} {pc : Array Value} {bl : List Bool} {cells sc : List ByteArray} {ss : List Bool} {at_ : Int} {dn : Bool} {C0 C1 : Option Addr} {m0 m1 : Nat} (h : SolW w wr bs pc bl cells sc ss at_ dn C0 C1 m0 m1) (hb : Below wr.heap.size wr w2) : SolW w w2 bs pc bl cells sc ss at_ dn C0 C1 m0 m1 :=
  ⟨blk_below h.s hb, blk_below h.p hb, Kd.R_below h.x hb, Kd.R_below h.b hb, below_step h.bw hb, h.r⟩
set_option maxHeartbeats 16000000 in
set_option maxRecDepth 1000000 in
theorem SheetRight.calls {title : ByteArray} {H W : Int} {A2 : Option Addr} {c2 : Nat} {bl : List Bool} {A3 : Option Addr} {c3 : Nat} {ri : List Bool} {A4 : Option Addr} {c4 : Nat} {be : List Bool} {A5 : Option Addr} {c5 : Nat} {cells : List ByteArray} {A6 : Option Addr} {c6 : Nat} {clues : List ByteArray} {A9 : Option Addr} {c9 : Nat} {acts : List ActV} {w : World} (hT : Tabs w) (hP : PuzR A2 c2 bl A3 c3 ri A4 c4 be A5 c5 cells A6 c6 clues w) (hA : ActsR A9 c9 acts w) (hz : PuzS title cells clues) (ha : acts.length ≤ 1048576 ∧ ∀ x ∈ acts, x.2.2.size ≤ 1048576) :
    Calls Tryd.prog 6 #[.agg #[.string title, .int .i64 H, .int .i64 W, .slice A2 bl.length c2, .slice A3 ri.length c3, .slice A4 be.length c4, .slice A5 cells.length c5, .slice A6 clues.length c6], .slice A9 acts.length c9] w fun e w' => e = .returned (.bool true) ∧ Below w.heap.size w w' := by
  have hx := box1 w (.cells #[.string title, .int .i64 H, .int .i64 W, .slice A2 bl.length c2, .slice A3 ri.length c3, .slice A4 be.length c4, .slice A5 cells.length c5, .slice A6 clues.length c6] 27)
  replace hx := Lib.hid hx
  have hu27 := Tryd.underlying27
  have hu30 := Tryd.underlying30
  have hu36 := Tryd.underlying36
  obtain ⟨tc, ts, ta, td, er, hr⟩ : ∃ tc ts ta td er, sstart title H W bl ri be cells clues = (tc, ts, ta, td, er) := ⟨_, _, _, _, _, rfl⟩
  by_cases her : er = 0
  · have tne : (er != 0) = false := by rw [her]; rfl
    rw [her] at hr
    obtain ⟨hp, hR⟩ := start_right hr
    rw [← her] at hr
    clear her
    replace hr := Lib.hid hr
    replace hz := Lib.hid hz
    replace hp := Lib.hid hp
    replace hR := Lib.hid hR
    go_enter Tryd.func6, Tryd.ntmps6
    go_wp2_with (first
      | (go_at_call 7; go_must (refine (rebuslaw23_awake.calls _ (tabs_below hT hx.out.2)).mono ?_; rintro e w3 ⟨rfl, hb3⟩; have bP := Lib.hid (blk_below hx.out.1 hb3); have hB3 := Lib.hid (below_step hx.out.2 hb3); have p3 := cells8 bP.out; clear hb3))
      | (go_at_call 8; go_must (refine (start_calls (tabs_below hT hB3.out) (hP.below hB3.out) hz.out).mono ?_; rintro e w4 hD; obtain ⟨v0, v1, rfl, r0, r1, hb4⟩ := hD.opened hr.out; clear hD; obtain ⟨B0, k0, rfl⟩ := Kd.R_slice r0; obtain ⟨B1, k1, rfl⟩ := Kd.R_slice r1; have bP4 := Lib.hid (blk_below bP.out hb4); have hB4 := Lib.hid (below_step hB3.out hb4); have p4 := cells8 bP4.out; have y4 := blk_lt bP4.out; have R0 := Lib.hid (Kd.R_lower r0 (below_size hB3.out)); have R1 := Lib.hid (Kd.R_lower r1 (below_size hB3.out)); clear r0 r1 p3 hb4)))
    have bS5 := blk_new w4 (.cells #[.slice B0 tc.length k0, .slice B1 ts.length k1, .int .i64 ta, .bool td] 30)
    have bP5 := blk_alloc bP4.out (.cells #[.slice B0 tc.length k0, .slice B1 ts.length k1, .int .i64 ta, .bool td] 30)
    have hB5 := below_alloc hB4.out (.cells #[.slice B0 tc.length k0, .slice B1 ts.length k1, .int .i64 ta, .bool td] 30)
    have R05 := Kd.R_alloc R0.out (.cells #[.slice B0 tc.length k0, .slice B1 ts.length k1, .int .i64 ta, .bool td] 30)
    have R15 := Kd.R_alloc R1.out (.cells #[.slice B0 tc.length k0, .slice B1 ts.length k1, .int .i64 ta, .bool td] 30)
    generalize w4.alloc (.cells #[.slice B0 tc.length k0, .slice B1 ts.length k1, .int .i64 ta, .bool td] 30) = w5 at bS5 bP5 hB5 R05 R15 ⊢
    generalize w4.heap.size = bs at bS5 y4 ⊢
    have hW5 := Lib.hid (SolW.mk bS5 bP5 R05 R15 hB5 hR.out)
    clear bS5 bP5 hB5 R05 R15 R0 R1 p4 bP4 hB4 bP hB3 hx hR
    go_loopw [31] (fun v31 wr => ∃ (i : Nat) (q : Int) (sc : List ByteArray) (ss : List Bool) (at_ : Int) (dn : Bool) (C0 C1 : Option Addr) (m0 m1 : Nat), v31 = .int .i64 q ∧ Hid (q = i ∧ i ≤ acts.length) ∧ Hid (SolW w wr bs #[.string title, .int .i64 H, .int .i64 W, .slice A2 bl.length c2, .slice A3 ri.length c3, .slice A4 be.length c4, .slice A5 cells.length c5, .slice A6 clues.length c6] bl cells sc ss at_ dn C0 C1 m0 m1)) (fun v31 _ => acts.length - (intOf v31).toNat)
    case atStart => exact ⟨0, 0, tc, ts, ta, td, B0, B1, k0, k1, rfl, Lib.hid ⟨rfl, Nat.zero_le _⟩, hW5⟩
    case round =>
      obtain ⟨i, q, sc, ss, at_, dn, C0, C1, m0, m1, rfl, hq, hW⟩ := hrel
      have p7 := cells8 hW.out.p
      have s7 := cells4 hW.out.s
      have f7 := frozen4 hW.out.s
      have zl := blk_lt hW.out.s
      have zp := blk_lt hW.out.p
      by_cases hlt : i < acts.length
      · have hq0 : 0 ≤ q := by have := hq.out; omega
        have hq1 : q < (acts.length : Int) := by have := hq.out; omega
        have hq3 : q < 1048576 := by have := ha.1; omega
        have hqn : q.toNat = i := by have := hq.out; omega
        obtain ⟨⟨kind, cell, text⟩, hact⟩ : ∃ x : ActV, acts[i]? = some x := ⟨_, List.getElem?_eq_getElem hlt⟩
        have htx : text.size ≤ 1048576 := ha.2 _ (List.mem_of_getElem? hact)
        obtain ⟨ad, eA, z0, z1, z2⟩ := (hA.below hW.out.bw).cell i _ hact
        cases eA
        rw [← hqn] at z0 z1 z2
        dsimp only at z0 z1 z2
        replace hlt := Lib.hid hlt
        clear hqn hact
        by_cases h60 : q = 60
        · have t60 : (q == 60) = true := by rw [h60]; rfl
          clear h60
          go_wp2
          go_ret
          exact ⟨rfl, below_alloc hW.out.bw _⟩
        · have t60 : (q == 60) = false := by simpa using h60
          clear h60
          have hWa := Lib.hid (hW.out.alloc (.cells #[.int .i64 kind, .int .i64 cell, .string text] 36))
          obtain ⟨tc2, ts2, ta2, td2, er2, d⟩ : ∃ tc2 ts2 ta2 td2 er2, doOf title H W bl ri be cells clues sc ss at_ dn kind cell text = (tc2, ts2, ta2, td2, er2) := ⟨_, _, _, _, _, rfl⟩
          by_cases he2 : er2 = 0
          · have tn2 : (er2 != 0) = false := by rw [he2]; rfl
            rw [he2] at d
            have R2 := (do_right d).2.2
            rw [← he2] at d
            have eC : scheck title H W bl ri be cells clues tc2 ts2 ta2 = 0 := R2.check hp.out
            obtain ⟨l, hl⟩ : ∃ l, wrongs cells tc2 tc2.length 0 = l := ⟨_, rfl⟩
            have eW : swrong title H W bl ri be cells clues tc2 ts2 ta2 = (l, 0) := by unfold swrong; rw [if_pos eC, hl]
            have eD := done_wrongs hp.out R2
            rw [hl] at eD
            have hlc : (tc2.length : Int) = (cells.length : Int) := by rw [R2.l]
            have tlc : ((tc2.length : Int) != (cells.length : Int)) = false := by rw [hlc]; simp
            have tlc2 : (tc2.length != cells.length) = false := by rw [R2.l]; simp
            have hcl : tc2.length = cells.length := R2.l
            replace d := Lib.hid d
            replace R2 := Lib.hid R2
            replace eC := Lib.hid eC
            replace eW := Lib.hid eW
            replace eD := Lib.hid eD
            clear he2 hl hlc
            replace hcl := Lib.hid hcl
            go_wp2_with (first
              | (go_at_call 9; go_must (refine (sheet_Do.calls (tabs_below hT hWa.out.bw) (hP.below hWa.out.bw) hWa.out.rows hz.out hWa.out.r.small htx).mono ?_; rintro e w4 hD; obtain ⟨v0, v1, rfl, r0, r1, hb4⟩ := hD.opened d.out; clear hD; obtain ⟨D0, d0, rfl⟩ := Kd.R_slice r0; obtain ⟨D1, d1, rfl⟩ := Kd.R_slice r1; have hW4 := Lib.hid (hWa.out.below hb4); have hsz := below_size hWa.out.bw; have R0 := Lib.hid (Kd.R_lower r0 hsz); have R3 := Lib.hid (Kd.R_lower r1 hsz); have p4 := cells8 hW4.out.p; have s4 := cells4 hW4.out.s; have f4 := frozen4 hW4.out.s; have z4 := blk_lt hW4.out.s; have y5 := blk_lt hW4.out.p; clear r0 r1 hb4 hsz p7 s7 f7 zl zp z0 z1 z2))
              | ((with_reducible refine gate_store (t := 30) (p := 5) (v := .tmp 51) rfl ?_); go_must (refine store_event (w1 := (put4 w4 bs (.slice D0 tc2.length d0) (.slice D1 ts2.length d1) (.int .i64 ta2) (.bool td2)).alloc (.cells #[.slice D0 tc2.length d0, .slice D1 ts2.length d1, .int .i64 ta2, .bool td2] 30)) (by rfl) (by rfl) (by rfl) ?hr ?_; (case hr => first | (go_simp; done) | (go_simp; rfl)); intro w5 hw5; have hW5 := (SolW.put (dn2 := td2) y4 _ _ _ _ hW4.out.s hW4.out.p R0.out R3.out hW4.out.bw R2.out).alloc (.cells #[.slice D0 tc2.length d0, .slice D1 ts2.length d1, .int .i64 ta2, .bool td2] 30); rw [← hw5] at hW5; replace hW5 := Lib.hid hW5; have p5 := cells8 hW5.out.p; have s5 := cells4 hW5.out.s; clear hw5 p4 s4 f4 z4 y5))
              | (go_at_call 16; go_must (refine (wrong_calls (tabs_below hT hW5.out.bw) (hP.below hW5.out.bw) hW5.out.rows hz.out hW5.out.r.small).mono ?_; rintro e w6 ⟨v, rfl, rv, hb6⟩; rw [eW.out] at rv; rw [eW.out]; obtain ⟨E0, e0, rfl⟩ := Kd.R_slice rv; have hW6 := Lib.hid (hW5.out.below hb6); have p6 := cells8 hW6.out.p; have s6 := cells4 hW6.out.s; clear rv hb6 p5 s5))
              | (go_at_call 13; go_must (refine (check_calls (tabs_below hT hW6.out.bw) (hP.below hW6.out.bw) hW6.out.rows hz.out hW6.out.r.small).mono ?_; rintro e w7 ⟨rfl, hb7⟩; rw [eC.out]; have hW7 := Lib.hid (hW6.out.below hb7); have p8 := cells8 hW7.out.p; have s8 := cells4 hW7.out.s; clear hb7 p6 s6)))
            clear hW5 hW6 hWa hW4 R0 R3
            go_hide hQ
            go_loopw [78, 13] (fun v78 v13 wi => ∃ (k : Nat) (x : Int) (b : Bool), v78 = .int .i64 x ∧ v13 = .bool b ∧ Hid (x = k ∧ k ≤ cells.length) ∧ Hid (b = lacks cells tc2 k) ∧ Hid (SolW w wi bs #[.string title, .int .i64 H, .int .i64 W, .slice A2 bl.length c2, .slice A3 ri.length c3, .slice A4 be.length c4, .slice A5 cells.length c5, .slice A6 clues.length c6] bl cells tc2 ts2 ta2 td2 D0 D1 d0 d1)) (fun v78 _ _ => cells.length - (intOf v78).toNat)
            case atStart => exact ⟨0, 0, false, rfl, rfl, Lib.hid ⟨rfl, Nat.zero_le _⟩, Lib.hid rfl, hW7⟩
            case round =>
              clear hW7 p8 s8
              obtain ⟨k, x, b, rfl, rfl, hk, hb, hWi⟩ := hrel
              have pi := cells8 hWi.out.p
              have si := cells4 hWi.out.s
              by_cases hkl : k < cells.length
              · have hx0 : 0 ≤ x := by have := hk.out; omega
                have hx1 : x < (cells.length : Int) := by have := hk.out; omega
                have hx2 : x < (tc2.length : Int) := by rw [hcl.out]; exact hx1
                have hx3 : x < 1048576 := by have := hz.out.l; omega
                obtain ⟨ad5, eA5, zx⟩ := Kd.at_string (hP.below hWi.out.bw).r5 x hx0 hx1
                obtain ⟨ad6, eA6, zy⟩ := Kd.at_string hWi.out.rows.r7 x hx0 hx2
                cases eA5
                cases eA6
                obtain ⟨xa, hxa⟩ : ∃ y, rdOf ByteArray.empty cells x = y := ⟨_, rfl⟩
                obtain ⟨ya, hya⟩ : ∃ y, rdOf ByteArray.empty tc2 x = y := ⟨_, rfl⟩
                rw [hxa] at zx
                rw [hya] at zy
                have hlk : lacks cells tc2 (k + 1) = (b || (!xa.toList.isEmpty && ya.toList.isEmpty)) := by rw [hb.out, ← hxa, ← hya, hk.out.1]; rfl
                replace hlk := Lib.hid hlk
                replace hxa := Lib.hid hxa
                replace hya := Lib.hid hya
                replace hkl := Lib.hid hkl
                cases b with
                | true =>
                  clear hxa hya
                  go_wp2
                  refine ⟨⟨k + 1, x + 1, true, rfl, rfl, Lib.hid ⟨by have := hk.out; omega, hkl.out⟩, Lib.hid (by rw [hlk.out]; rfl), hWi⟩, ?_⟩
                  simp only [intOf]; have := hk.out; have := hkl.out; omega
                | false =>
                  by_cases hxe : xa.toList = []
                  · have te : xa.toList.isEmpty = true := by rw [hxe]; rfl
                    rw [te] at hlk
                    clear hxe
                    go_wp2
                    refine ⟨⟨k + 1, x + 1, false, rfl, rfl, Lib.hid ⟨by have := hk.out; omega, hkl.out⟩, Lib.hid (by rw [hlk.out]; rfl), hWi⟩, ?_⟩
                    simp only [intOf]; have := hk.out; have := hkl.out; omega
                  · have te : xa.toList.isEmpty = false := toList_nil.2 hxe
                    rw [te] at hlk
                    clear hxe
                    by_cases hye : ya.toList = []
                    · have tf : ya.toList.isEmpty = true := by rw [hye]; rfl
                      rw [tf] at hlk
                      clear hye
                      go_wp2
                      refine ⟨⟨k + 1, x + 1, true, rfl, rfl, Lib.hid ⟨by have := hk.out; omega, hkl.out⟩, Lib.hid (by rw [hlk.out]; rfl), hWi⟩, ?_⟩
                      simp only [intOf]; have := hk.out; have := hkl.out; omega
                    · have tf : ya.toList.isEmpty = false := toList_nil.2 hye
                      rw [tf] at hlk
                      clear hye
                      go_wp2
                      refine ⟨⟨k + 1, x + 1, false, rfl, rfl, Lib.hid ⟨by have := hk.out; omega, hkl.out⟩, Lib.hid (by rw [hlk.out]; rfl), hWi⟩, ?_⟩
                      simp only [intOf]; have := hk.out; have := hkl.out; omega
              · have hge : ¬ x < (cells.length : Int) := by have := hk.out; omega
                have hke : k = cells.length := by have := hk.out; omega
                have hb2 := hb.out
                rw [hke] at hb2
                have eD2 := eD.out
                rw [← hb2] at eD2
                clear hke hb2
                by_cases hl0 : l.length = 0
                · have tl : ((l.length : Int) == 0) = true := by rw [hl0]; rfl
                  have tl2 : (l.length == 0) = true := by rw [hl0]; rfl
                  have tl3 : l.isEmpty = true := by rw [List.eq_nil_of_length_eq_zero hl0]; rfl
                  rw [decide_eq_true hl0, Bool.true_and] at eD2
                  clear hl0
                  cases b with
                  | true =>
                    have eS := Lib.hid eD2
                    clear eD2
                    go_wp2
                    subst hQ
                    go_wp2_with (first
                      | (go_at_call 10; go_must (refine (done_calls (tabs_below hT hWi.out.bw) (hP.below hWi.out.bw) hWi.out.rows hz.out hWi.out.r.small).mono ?_; rintro e w9 ⟨rfl, hb9⟩; rw [eS.out]; have hW9 := Lib.hid (hWi.out.below hb9); clear hb9)))
                    refine ⟨⟨i + 1, q + 1, tc2, ts2, ta2, td2, _, _, _, _, rfl, Lib.hid ⟨by have := hq.out; omega, hlt.out⟩, hW9⟩, ?_⟩
                    simp only [intOf]; have := hq.out; have := hlt.out; omega
                  | false =>
                    have eS := Lib.hid eD2
                    clear eD2
                    go_wp2
                    subst hQ
                    go_wp2_with (first
                      | (go_at_call 10; go_must (refine (done_calls (tabs_below hT hWi.out.bw) (hP.below hWi.out.bw) hWi.out.rows hz.out hWi.out.r.small).mono ?_; rintro e w9 ⟨rfl, hb9⟩; rw [eS.out]; have hW9 := Lib.hid (hWi.out.below hb9); clear hb9)))
                    refine ⟨⟨i + 1, q + 1, tc2, ts2, ta2, td2, _, _, _, _, rfl, Lib.hid ⟨by have := hq.out; omega, hlt.out⟩, hW9⟩, ?_⟩
                    simp only [intOf]; have := hq.out; have := hlt.out; omega
                · have tl : ((l.length : Int) == 0) = false := beq_eq_false_iff_ne.2 (by omega)
                  have tl2 : (l.length == 0) = false := by simpa using hl0
                  rw [decide_eq_false hl0, Bool.false_and] at eD2
                  have eS := Lib.hid eD2
                  clear eD2
                  go_wp2
                  subst hQ
                  go_wp2_with (first
                    | (go_at_call 10; go_must (refine (done_calls (tabs_below hT hWi.out.bw) (hP.below hWi.out.bw) hWi.out.rows hz.out hWi.out.r.small).mono ?_; rintro e w9 ⟨rfl, hb9⟩; rw [eS.out]; have hW9 := Lib.hid (hWi.out.below hb9); clear hb9)))
                  refine ⟨⟨i + 1, q + 1, tc2, ts2, ta2, td2, _, _, _, _, rfl, Lib.hid ⟨by have := hq.out; omega, hlt.out⟩, hW9⟩, ?_⟩
                  simp only [intOf]; have := hq.out; have := hlt.out; omega
          · have tn2 : (er2 != 0) = true := bne_iff_ne.2 he2
            have hnil := do_err d he2
            have tl : ((tc2.length : Int) != 0) = false := by rw [hnil]; rfl
            have tl2 : (tc2.length != 0) = false := by rw [hnil]; rfl
            have tl3 : tc2.isEmpty = true := by rw [hnil]; rfl
            replace d := Lib.hid d
            clear hnil he2
            go_wp2_with (first
              | (go_at_call 9; go_must (refine (sheet_Do.calls (tabs_below hT hWa.out.bw) (hP.below hWa.out.bw) hWa.out.rows hz.out hWa.out.r.small htx).mono ?_; rintro e w4 hD; obtain ⟨v0, v1, rfl, r0, r1, hb4⟩ := hD.opened d.out; clear hD; obtain ⟨D0, d0, rfl⟩ := Kd.R_slice r0; obtain ⟨D1, d1, rfl⟩ := Kd.R_slice r1; have hW4 := Lib.hid (hWa.out.below hb4); have hsz := below_size hWa.out.bw; have R0 := Lib.hid (Kd.R_lower r0 hsz); have R3 := Lib.hid (Kd.R_lower r1 hsz); have p4 := cells8 hW4.out.p; have s4 := cells4 hW4.out.s; have f4 := frozen4 hW4.out.s; have z4 := blk_lt hW4.out.s; have y5 := blk_lt hW4.out.p; clear r0 r1 hb4 hsz p7 s7 f7 zl zp z0 z1 z2)))
            refine ⟨⟨i + 1, q + 1, sc, ss, at_, dn, C0, C1, m0, m1, rfl, Lib.hid ⟨by have := hq.out; omega, hlt.out⟩, Lib.hid (hW4.out.alloc _)⟩, ?_⟩
            simp only [intOf]; have := hq.out; have := hlt.out; omega
      · have hge : ¬ q < (acts.length : Int) := by have := hq.out; omega
        go_wp2
        go_ret
        exact ⟨rfl, hW.out.bw⟩
  · have tne : (er != 0) = true := bne_iff_ne.2 her
    have hnil := start_err hr her
    have tl : ((tc.length : Int) == 0) = true := by rw [hnil]; rfl
    have tl2 : (tc.length == 0) = true := by rw [hnil]; rfl
    have tl3 : tc.isEmpty = true := by rw [hnil]; rfl
    replace hr := Lib.hid hr
    replace hz := Lib.hid hz
    clear hnil her
    go_enter Tryd.func6, Tryd.ntmps6
    go_wp2_with (first
      | (go_at_call 7; go_must (refine (rebuslaw23_awake.calls _ (tabs_below hT hx.out.2)).mono ?_; rintro e w3 ⟨rfl, hb3⟩; have bP := Lib.hid (blk_below hx.out.1 hb3); have hB3 := Lib.hid (below_step hx.out.2 hb3); have p3 := cells8 bP.out; clear hb3))
      | (go_at_call 8; go_must (refine (start_calls (tabs_below hT hB3.out) (hP.below hB3.out) hz.out).mono ?_; rintro e w4 hD; obtain ⟨v0, v1, rfl, r0, r1, hb4⟩ := hD.opened hr.out; clear hD; obtain ⟨B0, k0, rfl⟩ := Kd.R_slice r0; obtain ⟨B1, k1, rfl⟩ := Kd.R_slice r1; have bP4 := Lib.hid (blk_below bP.out hb4); have hB4 := Lib.hid (below_step hB3.out hb4); have p4 := cells8 bP4.out; have y4 := blk_lt bP4.out; have R0 := Lib.hid (Kd.R_lower r0 (below_size hB3.out)); have R1 := Lib.hid (Kd.R_lower r1 (below_size hB3.out)); clear r0 r1 p3 hb4)))
    go_ret
    exact ⟨rfl, below_alloc hB4.out _⟩
end Go.Proofs.YtiipailmldbpbaaDoor.Q
end
section
namespace Go.Proofs.YtiipailmldbpbaaDoor.right
open Go.ChangeShapes Go.WideShapes Go.ChangeAt Go.RowKit Go.Joins
open Go.Proofs.YtiipailmldbpbaaDoor.Q Go.Proofs.YtiipailmldbpbaaDoorS
set_option maxRecDepth 100000
def wArgs : Array Value := #[.agg #[.string ⟨#[]⟩, .int .i64 0, .int .i64 0, .slice none 0 0, .slice none 0 0, .slice none 0 0, .slice none 0 0, .slice none 0 0], .slice none 0 0]
def wData {H : Type} : List (DataW H) := [.agg [.lit (.string []), .agg [.lit (.int .i64 0), .lit (.int .i64 0), .nil, .nil, .nil], .nil, .nil], .nil]
theorem laid_met (os : Os) : laidMet Tryd.prog Rows.sheetRightUptoRow.laid ((laidWorld os).forCall (fun _ _ => 0) ⟨#[], wArgs, []⟩).memory :=
  laidMet_of_run' 8 (by kernel_rfl) (by kernel_rfl)
theorem reads (os : Os) {H : Type} (enc : TypeId × Value → H) : ∃ places, DataW.whole enc Tryd.prog ((laidWorld os).forCall (fun _ _ => 0) ⟨#[], wArgs, []⟩).memory Tryd.f6.params.toList Rows.sheetRightSpec.vars false wArgs.toList 8 = some (wData, [], places) :=
  ⟨[], by kernel_rfl⟩
theorem contract (H : Type) (enc : TypeId × Value → H) (W : World) (base : Nat) (args : Array Value) (ds gs : List (DataW H)) (before : List MemPlace)
    (hval : ∀ (j : Nat) t v, Tryd.f6.params[j]? = some t → args[j]? = some v → Value.okWide Tryd.prog W .any base t v)
    (hW : DataW.Whole enc Tryd.prog Tryd.f6.params.toList Rows.sheetRightSpec.vars false W args.toList ds gs before) (hL : laidMetH Tryd.prog Rows.sheetRightUptoRow.laid W) (hk : Rows.uptoSmall H (ds ++ gs) = true) :
    Calls Tryd.prog 6 args W fun e W' => ∃ v, e = .returned v ∧ Rows.sheetRightSpec.post enc Tryd.prog Tryd.f6 false true false false W args v W' := by
  have hW' := hW
  obtain ⟨p, q, hA0, hV, rfl, hfz, hnd⟩ := hW
  have hA : DataW.TrodAll enc Tryd.prog W 0 (fun _ => true) true Tryd.f6.params.toList args.toList ds p := hA0
  rw [Tryd.params6] at hA hval
  obtain ⟨v0, v1, d0, d1, p0, p1, rfl, rfl, rfl, h0, h1⟩ := trodAll_two hA
  obtain ⟨rfl, rfl⟩ := trodVars_none hV
  simp only [List.append_nil] at hk
  have hb := bulk_bound hk
  simp only [Rows.uptoBulkAll] at hb
  obtain ⟨title, Hh, Ww, A2, c2, bl, A3, c3, ri, A4, c4, be, A5, c5, cells, A6, c6, clues, rfl, hP, hz⟩ := open_puzzle (hval 0 27 v0 rfl rfl) h0
  obtain ⟨A9, c9, acts, rfl, hA9, ha⟩ := open_acts (hval 1 51 v1 rfl rfl) h1
  refine (SheetRight.calls (tabs_of_laid hL) hP hA9 (hz (by omega)) (ha (by omega))).mono fun e W' ⟨he, hbel⟩ => ?_
  subst he
  have hlt : ∀ x ∈ p0 ++ (p1), x.block < W.heap.size := fun x hx => hW'.lt x (by simpa using hx)
  refine ⟨_, rfl, post_of_below (pa := p0 ++ (p1)) (pv := []) hW' (fun _ _ _ => trodAll_mk1 (shut_bool Tryd.underlying4 true)) (fun sp hsp => ?_) (fun _ _ => rfl) (by simp) hbel (ok_one (by kernel_rfl) rfl (okWide_bool_mk Tryd.underlying4 _))⟩
  have stay : ∀ {t : TypeId} {v : Value} {d : DataW H} {ps : List MemPlace}, Tryd.prog.readableRec t = true → t < Tryd.prog.types.size → DataW.Trod enc Tryd.prog W 0 (fun _ => true) true t v d ps → (∀ x ∈ ps, x ∈ p0 ++ (p1)) → DataW.Trod enc Tryd.prog W' 0 sp true t v d ps := fun hr hrow h hin =>
    WideElems.Trod_stays laid_out hr hrow h (fun x hx => hbel.same (hlt x (hin x hx))) (fun x hx => hsp x (by simpa using hin x hx))
  exact trodAll_mk2 (stay (by kernel_rfl) (of_decide_eq_true (by kernel_rfl)) h0 (fun x hx => List.mem_append_left _ hx)) (stay (by kernel_rfl) (of_decide_eq_true (by kernel_rfl)) h1 (fun x hx => List.mem_append_right _ (hx)))
theorem liftedUpto (os : Os) (started : os.Started) (H : Type) (enc : TypeId × Value → H) (F : Stop.Interp) :
    ReturnsInHanded {} Tryd.checked os 6 .any ((Rows.OpenSpec.upto Rows.sheetRightSpec).preRow enc Tryd.prog Tryd.f6 Rows.sheetRightUptoRow.domain false Rows.sheetRightUptoRow.laid) (((Rows.OpenSpec.upto Rows.sheetRightSpec).at F).post enc Tryd.prog Tryd.f6 false true false false) := by
  obtain ⟨places, hx⟩ := reads os enc
  refine returnsInHanded_of_row (C := Tryd.checked) (s := Rows.OpenSpec.upto Rows.sheetRightSpec) own_knob started (by kernel_rfl) Tryd.func6
    (witness_row_at (enc := enc) (C := Tryd.checked) false (laidWorld os) wArgs rfl (by kernel_rfl) (by kernel_rfl) (by kernel_rfl)
      (OpenSpec.preRow_of_cond 8 hx (by kernel_rfl) (fun k hk => by cases hk; kernel_rfl) (by kernel_rfl) (laid_met os))) ?_
  intro W base args ds gs before hval hW _ hcond _ hL _ _
  exact contract H enc W base args ds gs before hval hW hL (hcond _ rfl)
theorem saidUpto : Rows.SheetRightUptoSaid :=
  OpenClaim.holds_of_cond 6 Tryd.f6 rfl rfl rfl rfl rfl rfl rfl ⟨rfl, rfl, rfl, rfl, rfl⟩ rfl rfl rfl rfl rfl (by kernel_rfl) Tryd.func6 (by kernel_rfl)
    (of_decide_eq_true (by kernel_rfl)) (by unfold Func.isWrapper; first | (rw [if_pos (by decide +kernel)]; kernel_rfl) | (rw [if_neg (by decide +kernel)]; exact ⟨rfl, rfl⟩))
    (fun os started H enc _ F => by rw [OpenClaim.pre_eq_preRow]; exact liftedUpto os started H enc F)
theorem plain (f : FuncId) (fn : Func) (hf : Tryd.pinned.checked.prog.funcNamed "rebus/rebuslaw23.SheetRight" = some f) (hfn : Tryd.pinned.checked.prog.funcs[f]? = some fn) :
    false = Tryd.pinned.checked.prog.looks [] ∧ ∀ (j : Nat) t, fn.params[j]? = some t → Tryd.pinned.checked.prog.wantsStandIn t = false := by
  obtain rfl : f = 6 := Option.some.inj ((show Tryd.prog.funcNamed "rebus/rebuslaw23.SheetRight" = some 6 by kernel_rfl).symm.trans hf) |>.symm
  obtain rfl : fn = Tryd.f6 := (Option.some.inj (Tryd.func6.symm.trans hfn)).symm
  refine ⟨by kernel_rfl, fun j t ht => ?_⟩
  rw [Tryd.params6] at ht
  have hm : t ∈ #[27, 51] := Array.mem_of_getElem? ht
  simp only [List.mem_toArray, List.mem_cons, List.not_mem_nil, or_false] at hm
  rcases hm with rfl | rfl
  · exact (show Tryd.prog.wantsStandIn 27 = false by kernel_rfl)
  · exact (show Tryd.prog.wantsStandIn 51 = false by kernel_rfl)
theorem cardUpto : Rows.SheetRightUptoCardSaid :=
  Claim7.holds_tied_plain_at .later [] _ _ _ _ saidUpto (fun _ h => by cases h) (by kernel_rfl) (fun _ h => by cases h) sheetRightUpto_row_tie rfl ⟨rfl, rfl⟩ (by kernel_rfl) rfl plain (by kernel_rfl)
end Go.Proofs.YtiipailmldbpbaaDoor.right
end
#print axioms Go.Proofs.YtiipailmldbpbaaDoor.right.cardUpto
