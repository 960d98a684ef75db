/- PART 19 OF A PROOF: Lean functions, and that the program computes them; written by hand and by a program. Not trusted: Lean checks it. -/
import Derived.Test.YtiipailmldbpbaaGreatDoorZa3
import Derived.Test.YtiipailmldbpbaaGreatDoorZa6
import Derived.Test.YtiipailmldbpbaaGreatDoorZa14
import Derived.Test.YtiipailmldbpbaaGreatDoorZa15
import Derived.Test.YtiipailmldbpbaaGreatDoorZa17
set_option linter.unusedVariables false
set_option linter.unusedSimpArgs false
section
namespace Go.Proofs.YtiipailmldbpbaaGreatDoor.Q
open Go.RowKit Go.Proofs.YtiipailmldbpbaaGreatDoorW.PrintWords Go.Proofs.YtiipailmldbpbaaGreatDoorW.PrintLast Go.Proofs.YtiipailmldbpbaaGreatDoorW.PrintMore
set_option linter.unusedVariables false
set_option linter.unusedSimpArgs false
open Go.Proofs.YtiipailmldbpbaaGreatDoorS
def bsC (cs : List Int) (at_ d : Int) : Nat → Nat → Option Int
  | 0, _ => none
  | f + 1, i => if rd cs (i : Int) = at_ ∧ 0 ≤ (i : Int) + d ∧ (i : Int) + d < cs.length then some (rd cs ((i : Int) + d)) else bsC cs at_ d f (i + 1)
def bsL (dn : Bool) (at_ d : Int) : List S83 → Int
  | [] => -1
  | x :: xs => if x.f1 = dn then (match bsC x.f2 at_ d x.f2.length 0 with | some r => r | none => bsL dn at_ d xs) else bsL dn at_ d xs
def besideOf (H W : Int) (bl ri be : List Bool) (at_ : Int) (dn : Bool) (d : Int) : Int := bsL dn at_ d (slotsOf H W bl ri be)
theorem rd_get {cs : List Int} {i : Nat} (h : i < cs.length) : rd cs (i : Int) = cs[i] := by simp [rd, List.getD_eq_getElem?_getD, h]
theorem bsC_none {cs : List Int} {at_ d : Int} : ∀ (f i : Nat), i + f = cs.length → (∀ o (h : o < cs.length), cs[o] = at_ → ¬(0 ≤ (o : Int) + d ∧ (o : Int) + d < cs.length)) → bsC cs at_ d f i = none
  | 0, _, _, _ => rfl
  | f + 1, i, hi, h => by
    simp only [bsC]
    rw [if_neg (fun hc => h i (by omega) ((rd_get (by omega)).symm.trans hc.1) hc.2)]
    exact bsC_none f (i + 1) (by omega) h
theorem bsC_some {cs : List Int} {at_ d : Int} {o : Nat} (ho : o < cs.length) (ha : cs[o] = at_) (hr : 0 ≤ (o : Int) + d ∧ (o : Int) + d < cs.length) (hu : ∀ o' (h : o' < cs.length), cs[o'] = at_ → o' = o) : ∀ (f i : Nat), i + f = cs.length → i ≤ o → bsC cs at_ d f i = some (rd cs ((o : Int) + d))
  | 0, i, hi, hio => by omega
  | f + 1, i, hi, hio => by
    simp only [bsC]
    by_cases e : i = o
    · subst e
      rw [if_pos ⟨(rd_get ho).trans ha, hr⟩]
    · rw [if_neg (fun hc => e (hu i (by omega) ((rd_get (by omega)).symm.trans hc.1)))]
      exact bsC_some ho ha hr hu f (i + 1) (by omega) (by omega)
def Uniq (dn : Bool) (at_ : Int) (L : List S83) : Prop := ∀ (s t a b : Nat) (x y : S83), L[s]? = some x → L[t]? = some y → x.f1 = dn → y.f1 = dn → x.f2[a]? = some at_ → y.f2[b]? = some at_ → s = t ∧ a = b
theorem Uniq.tail {dn : Bool} {at_ : Int} {x : S83} {L : List S83} (h : Uniq dn at_ (x :: L)) : Uniq dn at_ L := fun s t a b x' y' h1 h2 d1 d2 g1 g2 => by
  have := h (s + 1) (t + 1) a b x' y' (by simpa using h1) (by simpa using h2) d1 d2 g1 g2
  omega
theorem bsL_none {dn : Bool} {at_ d : Int} : ∀ (L : List S83), (∀ x ∈ L, x.f1 = dn → ∀ o : Nat, x.f2[o]? ≠ some at_) → bsL dn at_ d L = -1
  | [], _ => rfl
  | x :: L, h => by
    simp only [bsL]
    have ih := bsL_none (dn := dn) (at_ := at_) (d := d) L (fun y hy => h y (List.mem_cons_of_mem _ hy))
    by_cases e : x.f1 = dn
    · rw [if_pos e, bsC_none x.f2.length 0 (by omega) (fun o ho ha => absurd (by rw [List.getElem?_eq_getElem ho, ha]) (h x List.mem_cons_self e o))]
      exact ih
    · rw [if_neg e]; exact ih
theorem bsL_some {dn : Bool} {at_ d : Int} : ∀ (L : List S83) (t o : Nat) (x : S83), Uniq dn at_ L → L[t]? = some x → x.f1 = dn → x.f2[o]? = some at_ → bsL dn at_ d L = if 0 ≤ (o : Int) + d ∧ (o : Int) + d < x.f2.length then rd x.f2 ((o : Int) + d) else -1
  | [], t, o, x, hu, ht, hx, ho => by simp at ht
  | y :: L, 0, o, x, hu, ht, hx, ho => by
    simp only [List.getElem?_cons_zero, Option.some.injEq] at ht
    subst ht
    simp only [bsL]
    rw [if_pos hx]
    obtain ⟨hol, hoa⟩ := List.getElem?_eq_some_iff.1 ho
    have hu1 : ∀ o' (h : o' < y.f2.length), y.f2[o'] = at_ → o' = o := fun o' h' e => (hu 0 0 o' o y y rfl rfl hx hx (by rw [List.getElem?_eq_getElem h', e]) ho).2
    by_cases hr : 0 ≤ (o : Int) + d ∧ (o : Int) + d < y.f2.length
    · rw [if_pos hr, bsC_some hol hoa hr hu1 _ 0 (by omega) (Nat.zero_le _)]
    · rw [if_neg hr, bsC_none _ 0 (by omega) (fun o' h' e => by rw [hu1 o' h' e]; exact hr)]
      exact bsL_none L (fun z hz e o' h' => by
        obtain ⟨k, hk, rfl⟩ := List.getElem_of_mem hz
        have := (hu 0 (k + 1) o o' y L[k] rfl (by simp [hk]) hx e ho h').1
        omega)
  | y :: L, t + 1, o, x, hu, ht, hx, ho => by
    have ht' : L[t]? = some x := by simpa using ht
    simp only [bsL]
    have ih := bsL_some (d := d) L t o x hu.tail ht' hx ho
    by_cases e : y.f1 = dn
    · rw [if_pos e, bsC_none y.f2.length 0 (by omega) (fun o' h' e' => by
        have := (hu 0 (t + 1) o' o y x rfl ht e hx (by rw [List.getElem?_eq_getElem h', e']) ho).1
        omega)]
      exact ih
    · rw [if_neg e]; exact ih
theorem seat_set_get {l : List S80} {i : Nat} {at_ : Int} {v : S80} (ha : 0 ≤ at_) (hl : at_ < l.length) : rd_T80 (l.set i v) at_ = if (i : Int) = at_ then v else rd_T80 l at_ := by
  unfold rd_T80
  rw [List.getD_eq_getElem?_getD, List.getD_eq_getElem?_getD, List.getElem?_set]
  by_cases e : (i : Int) = at_
  · rw [if_pos e, if_pos (by omega), if_pos (by omega)]; rfl
  · rw [if_neg e, if_neg (by omega)]
theorem seatCells_not {s at_ : Int} (ha : 0 ≤ at_) : ∀ (cs : List Int) (k : Nat) (l : List S80), at_ < l.length → (∀ c ∈ cs, 0 ≤ c) → (∀ o : Nat, cs[o]? ≠ some at_) → rd_T80 (seatCells s cs k l) at_ = rd_T80 l at_
  | [], _, _, _, _, _ => rfl
  | c :: cs, k, l, hl, h0, h => by
    simp only [seatCells]
    rw [seatCells_not ha cs (k + 1) _ (by rw [List.length_set]; exact hl) (fun c hc => h0 c (List.mem_cons_of_mem _ hc)) (fun o => by simpa using h (o + 1)), seat_set_get ha hl, if_neg]
    intro e
    have := h0 c List.mem_cons_self
    exact h 0 (by simp; omega)
theorem seatCells_at {s at_ : Int} (ha : 0 ≤ at_) : ∀ (cs : List Int) (k : Nat) (l : List S80) (o : Nat), at_ < l.length → (∀ c ∈ cs, 0 ≤ c) → cs[o]? = some at_ → (∀ o' : Nat, cs[o']? = some at_ → o' = o) → rd_T80 (seatCells s cs k l) at_ = ⟨s, ((k + o : Nat) : Int)⟩
  | [], _, _, o, _, _, ho, _ => by simp at ho
  | c :: cs, k, l, 0, hl, h0, ho, hu => by
    simp only [List.getElem?_cons_zero, Option.some.injEq] at ho
    simp only [seatCells]
    rw [seatCells_not ha cs (k + 1) _ (by rw [List.length_set]; exact hl) (fun c hc => h0 c (List.mem_cons_of_mem _ hc)) (fun o h => by have := hu (o + 1) (by simpa using h); omega), seat_set_get ha hl, if_pos (by have := h0 c List.mem_cons_self; omega)]
    rfl
  | c :: cs, k, l, o + 1, hl, h0, ho, hu => by
    simp only [seatCells]
    rw [seatCells_at ha cs (k + 1) _ o (by rw [List.length_set]; exact hl) (fun c hc => h0 c (List.mem_cons_of_mem _ hc)) (by simpa using ho) (fun o' h => by have := hu (o' + 1) (by simpa using h); omega), show k + 1 + o = k + (o + 1) by omega]
def seatPick (dn : Bool) (p : List S80 × List S80) : List S80 := if dn then p.2 else p.1
theorem seatPick_step (dn : Bool) (x : S83) (s : Nat) (p : List S80 × List S80) : seatPick dn (if x.f1 then (p.1, seatCells (s : Int) x.f2 0 p.2) else (seatCells (s : Int) x.f2 0 p.1, p.2)) = if x.f1 = dn then seatCells (s : Int) x.f2 0 (seatPick dn p) else seatPick dn p := by
  unfold seatPick
  cases dn <;> cases h : x.f1 <;> simp
theorem seatS_not {dn : Bool} {at_ : Int} (ha : 0 ≤ at_) : ∀ (L : List S83) (s : Nat) (p : List S80 × List S80), at_ < (seatPick dn p).length → (∀ x ∈ L, ∀ c ∈ x.f2, 0 ≤ c) → (∀ x ∈ L, x.f1 = dn → ∀ o : Nat, x.f2[o]? ≠ some at_) → rd_T80 (seatPick dn (seatS L s p)) at_ = rd_T80 (seatPick dn p) at_
  | [], _, _, _, _, _ => rfl
  | x :: L, s, p, hl, h0, h => by
    simp only [seatS]
    by_cases e : x.f1 = dn
    · rw [seatS_not ha L (s + 1) _ (by rw [seatPick_step, if_pos e, seatCells_length]; exact hl) (fun y hy => h0 y (List.mem_cons_of_mem _ hy)) (fun y hy => h y (List.mem_cons_of_mem _ hy)), seatPick_step, if_pos e, seatCells_not ha x.f2 0 _ hl (h0 x List.mem_cons_self) (h x List.mem_cons_self e)]
    · rw [seatS_not ha L (s + 1) _ (by rw [seatPick_step, if_neg e]; exact hl) (fun y hy => h0 y (List.mem_cons_of_mem _ hy)) (fun y hy => h y (List.mem_cons_of_mem _ hy)), seatPick_step, if_neg e]
theorem seatS_at {dn : Bool} {at_ : Int} (ha : 0 ≤ at_) : ∀ (L : List S83) (s : Nat) (p : List S80 × List S80) (t o : Nat) (x : S83), at_ < (seatPick dn p).length → (∀ x ∈ L, ∀ c ∈ x.f2, 0 ≤ c) → Uniq dn at_ L → L[t]? = some x → x.f1 = dn → x.f2[o]? = some at_ → rd_T80 (seatPick dn (seatS L s p)) at_ = ⟨((s + t : Nat) : Int), (o : Int)⟩
  | [], _, _, t, _, _, _, _, _, ht, _, _ => by simp at ht
  | y :: L, s, p, 0, o, x, hl, h0, hu, ht, hx, ho => by
    simp only [List.getElem?_cons_zero, Option.some.injEq] at ht
    subst ht
    simp only [seatS]
    rw [seatS_not ha L (s + 1) _ (by rw [seatPick_step, if_pos hx, seatCells_length]; exact hl) (fun z hz => h0 z (List.mem_cons_of_mem _ hz)) (fun z hz e o' h' => by
        obtain ⟨k, hk, rfl⟩ := List.getElem_of_mem hz
        have := (hu 0 (k + 1) o o' y L[k] rfl (by simp [hk]) hx e ho h').1
        omega), seatPick_step, if_pos hx, seatCells_at ha y.f2 0 _ o hl (h0 y List.mem_cons_self) ho (fun o' h' => (hu 0 0 o' o y y rfl rfl hx hx h' ho).2)]
    simp
  | y :: L, s, p, t + 1, o, x, hl, h0, hu, ht, hx, ho => by
    have ht' : L[t]? = some x := by simpa using ht
    simp only [seatS]
    rw [seatS_at ha L (s + 1) _ t o x (by rw [seatPick_step]; split <;> first | exact hl | (rw [seatCells_length]; exact hl)) (fun z hz => h0 z (List.mem_cons_of_mem _ hz)) hu.tail ht' hx ho, show s + 1 + t = s + (t + 1) by omega]
theorem run_get {H W : Int} {bl ri be : List Bool} {way : Int} : ∀ (f : Nat) (i : Int) (k : Nat) (c : Int), (grun H W bl ri be way f i)[k]? = some c → (k = 0 ∧ c = i) ∨ ∃ k' p, k = k' + 1 ∧ (grun H W bl ri be way f i)[k']? = some p ∧ gStep H W bl ri be p way = (c, true)
  | 0, i, k, c, h => by
    simp only [grun] at h
    cases k with
    | zero => simp at h; exact .inl ⟨rfl, h.symm⟩
    | succ k => simp at h
  | f + 1, i, k, c, h => by
    simp only [grun] at h ⊢
    split at h
    · rename_i hs
      rw [if_pos hs]
      cases k with
      | zero => simp at h; exact .inl ⟨rfl, h.symm⟩
      | succ k =>
        simp only [List.getElem?_cons_succ] at h
        rcases run_get f _ k c h with ⟨rfl, rfl⟩ | ⟨k', p, rfl, hp, hst⟩
        · exact .inr ⟨0, i, rfl, rfl, Prod.ext rfl hs⟩
        · exact .inr ⟨k' + 1, p, rfl, by simpa using hp, hst⟩
    · rename_i hs
      rw [if_neg hs]
      cases k with
      | zero => simp at h; exact .inl ⟨rfl, h.symm⟩
      | succ k => simp at h
theorem divmod {W d m q : Int} (hW : 0 < W) (hm0 : 0 ≤ m) (hm : m < W) (h : d * W + m = q) : q / W = d ∧ q % W = m := by
  have := (Int.ediv_emod_unique hW (a := q) (q := d) (r := m)).2 ⟨by rw [Int.mul_comm W d]; omega, hm0, hm⟩
  exact this
theorem gStep_back {H W : Int} {bl ri be : List Bool} (hc : gcheck H W bl ri be = 0) {q q' way : Int} (hw : way = 0 ∨ way = 1) (h : gStep H W bl ri be q way = (q', true)) : gStep H W bl ri be q' (way + 2) = (q, true) := by
  have ho := gStep_open hc (i := q) (way := way) (by rw [h])
  rw [h] at ho
  obtain ⟨ho1, ho2⟩ := ho
  have hd := Dims.of hc
  have hW0 : 0 < W := by have := hd.w1; omega
  unfold gStep at h ⊢
  rw [if_pos ho1] at h
  simp only at ho2
  rw [if_pos ho2]
  obtain ⟨d, hdv⟩ : ∃ d, q / W = d := ⟨_, rfl⟩
  obtain ⟨m, hmv⟩ : ∃ m, q % W = m := ⟨_, rfl⟩
  have hq : d * W + m = q := by rw [← hdv, ← hmv, Int.mul_comm]; exact Int.mul_ediv_add_emod q W
  have hm0 : 0 ≤ m := by rw [← hmv]; exact Int.emod_nonneg _ (by omega)
  have hmW : m < W := by rw [← hmv]; exact Int.emod_lt_of_pos _ hW0
  have hq0 : 0 ≤ q ∧ gat bl q = false := by
    simp only [gopen, Bool.and_eq_true, decide_eq_true_eq, Bool.not_eq_true'] at ho1
    exact ⟨ho1.1.1, ho1.2⟩
  have hd0 : 0 ≤ d := by rw [← hdv]; exact Int.ediv_nonneg hq0.1 (by omega)
  unfold gstep at h ⊢
  rw [hdv, hmv] at h
  rcases hw with rfl | rfl
  · simp only [gby, if_true, show (0 : Int) + 2 = 2 from rfl, show ¬ (2 : Int) = 0 by decide, show ¬ (2 : Int) = 1 by decide, if_false, Int.add_zero] at h ⊢
    split at h
    · simp at h
    · rename_i hr
      split at h
      · simp at h
      · rename_i hb
        split at h
        · simp at h
        · rename_i hbar
          simp only [Prod.mk.injEq, and_true] at h
          obtain ⟨e1, e2⟩ := divmod (d := d) (m := m + 1) (q := q') hW0 (by omega) (by omega) (by omega)
          have e3 : q' = q + 1 := by omega
          rw [e1, e2, show m + 1 + -1 = m by omega, hq, if_neg (by omega), hq0.2]
          have hmin : min q (d * W + (m + 1)) = q := by omega
          have hmin2 : min q' q = q := by omega
          rw [hmin] at hbar
          rw [hmin2]
          rw [if_neg (by simp), if_neg (fun hx => hbar (hx.imp id (fun hy => absurd hy.1 (by decide))))]
  · simp only [gby, if_true, show (1 : Int) + 2 = 3 from rfl, show ¬ (1 : Int) = 0 by decide, show ¬ (3 : Int) = 0 by decide, show ¬ (3 : Int) = 1 by decide, show ¬ (3 : Int) = 2 by decide, if_false, Int.add_zero] at h ⊢
    split at h
    · simp at h
    · rename_i hr
      split at h
      · simp at h
      · rename_i hb
        split at h
        · simp at h
        · rename_i hbar
          simp only [Prod.mk.injEq, and_true] at h
          have e4 : (d + 1) * W = d * W + W := by rw [Int.add_mul, Int.one_mul]
          obtain ⟨e1, e2⟩ := divmod (d := d + 1) (m := m) (q := q') hW0 hm0 hmW h
          have e3 : q' = q + W := by omega
          rw [e1, e2, show d + 1 + -1 = d by omega, hq, if_neg (by omega), hq0.2]
          have hmin : min q ((d + 1) * W + m) = q := by omega
          have hmin2 : min q' q = q := by omega
          rw [hmin] at hbar
          rw [hmin2]
          rw [if_neg (by simp), if_neg (fun hx => hbar (hx.imp (fun hy => absurd hy.1 (by decide)) id))]
theorem run_uniq {H W : Int} {bl ri be : List Bool} (hc : gcheck H W bl ri be = 0) {way : Int} (hw : way = 0 ∨ way = 1) {f : Nat} {i j : Int} (hi : gbegins H W bl ri be i way = true) (hj : gbegins H W bl ri be j way = true) : ∀ (a b : Nat) (c : Int), (grun H W bl ri be way f i)[a]? = some c → (grun H W bl ri be way f j)[b]? = some c → i = j ∧ a = b := by
  have no : ∀ {i p : Int}, gbegins H W bl ri be i way = true → gStep H W bl ri be p way = (i, true) → False := by
    intro i p hi hp
    have := gStep_back hc hw hp
    unfold gbegins at hi
    rw [this] at hi
    simp at hi
  intro a
  induction a with
  | zero =>
    intro b c ha hb
    rcases run_get f i 0 c ha with ⟨_, rfl⟩ | ⟨k, p, hk, _, _⟩
    · rcases run_get f j b c hb with ⟨rfl, rfl⟩ | ⟨k, p, rfl, _, hs⟩
      · exact ⟨rfl, rfl⟩
      · exact (no hi hs).elim
    · omega
  | succ a ih =>
    intro b c ha hb
    rcases run_get f i (a + 1) c ha with ⟨h, _⟩ | ⟨k, p, hk, hp, hs⟩
    · omega
    · obtain rfl : k = a := by omega
      rcases run_get f j b c hb with ⟨rfl, rfl⟩ | ⟨k', p', rfl, hp', hs'⟩
      · exact (no hj hs).elim
      · have e1 := gStep_back hc hw hs
        have e2 := gStep_back hc hw hs'
        rw [e1] at e2
        have e3 : p = p' := by simpa using e2
        subst e3
        obtain ⟨h1, h2⟩ := ih k' p hp hp'
        exact ⟨h1, by omega⟩
theorem gslots_from {H W : Int} {bl ri be : List Bool} : ∀ (d i : Nat) (num : Int), ∀ x ∈ gslots H W bl ri be d i num, ∃ j : Int, (i : Int) ≤ j ∧ x.2.2 = grun H W bl ri be (if x.2.1 then 1 else 0) bl.length j ∧ gbegins H W bl ri be j (if x.2.1 then 1 else 0) = true
  | 0, _, _, x, h => by simp [gslots] at h
  | d + 1, i, num, x, h => by
    simp only [gslots, List.mem_append] at h
    rcases h with (h | h) | h
    · split at h
      · rename_i hb
        simp only [List.mem_singleton] at h
        subst h
        exact ⟨i, Int.le_refl _, rfl, hb⟩
      · simp at h
    · split at h
      · rename_i hb
        simp only [List.mem_singleton] at h
        subst h
        exact ⟨i, Int.le_refl _, rfl, hb⟩
      · simp at h
    · obtain ⟨j, h1, h2⟩ := gslots_from d (i + 1) _ x h
      exact ⟨j, by omega, h2⟩
theorem gslots_pair {H W : Int} {bl ri be : List Bool} (hc : gcheck H W bl ri be = 0) : ∀ (d i : Nat) (num : Int), (gslots H W bl ri be d i num).Pairwise (fun x y => x.2.1 = y.2.1 → ∀ (a b : Nat) (c : Int), x.2.2[a]? = some c → y.2.2[b]? ≠ some c)
  | 0, _, _ => by simp [gslots]
  | d + 1, i, num => by
    have two : ∀ (dn : Bool) (n : Int) (nu : Int) (y : Int × Bool × List Int), gbegins H W bl ri be i (if dn then 1 else 0) = true → y ∈ gslots H W bl ri be d (i + 1) nu → dn = y.2.1 → ∀ (a b : Nat) (c : Int), (grun H W bl ri be (if dn then 1 else 0) bl.length i)[a]? = some c → y.2.2[b]? ≠ some c := by
      intro dn n nu y hb hy e a b c ha hb2
      obtain ⟨j, hj, hr, hbj⟩ := gslots_from d (i + 1) nu y hy
      rw [← e] at hr hbj
      rw [hr] at hb2
      have := (run_uniq hc (way := if dn then 1 else 0) (by cases dn <;> simp) hb hbj a b c ha hb2).1
      omega
    simp only [gslots]
    rw [List.pairwise_append]
    refine ⟨?_, gslots_pair hc d (i + 1) _, ?_⟩
    · rw [List.pairwise_append]
      refine ⟨by split <;> simp, by split <;> simp, ?_⟩
      intro x hx y hy e
      split at hx
      · split at hy
        · simp only [List.mem_singleton] at hx hy
          subst hx; subst hy
          simp at e
        · simp at hy
      · simp at hx
    · intro x hx y hy e
      rw [List.mem_append] at hx
      rcases hx with hx | hx
      · split at hx
        · rename_i hb
          simp only [List.mem_singleton] at hx
          subst hx
          exact two false (num + 1) _ y hb hy e
        · simp at hx
      · split at hx
        · rename_i hb
          simp only [List.mem_singleton] at hx
          subst hx
          exact two true (num + 1) _ y hb hy e
        · simp at hx
theorem slotsOf_uniq {H W : Int} {bl ri be : List Bool} (hc : gcheck H W bl ri be = 0) (dn : Bool) (at_ : Int) : Uniq dn at_ (slotsOf H W bl ri be) := by
  unfold slotsOf
  rw [if_pos hc]
  have hp := gslots_pair hc bl.length 0 0
  have one : ∀ (s t a b : Nat) (x y : S83), s < t → ((gslotsAll H W bl ri be).map slotOf)[s]? = some x → ((gslotsAll H W bl ri be).map slotOf)[t]? = some y → x.f1 = dn → y.f1 = dn → x.f2[a]? = some at_ → y.f2[b]? = some at_ → False := by
    intro s t a b x y hlt h1 h2 d1 d2 g1 g2
    rw [List.getElem?_map, Option.map_eq_some_iff] at h1 h2
    obtain ⟨x', hx', rfl⟩ := h1
    obtain ⟨y', hy', rfl⟩ := h2
    obtain ⟨l1, e1⟩ := List.getElem?_eq_some_iff.1 hx'
    obtain ⟨l2, e2⟩ := List.getElem?_eq_some_iff.1 hy'
    have := List.pairwise_iff_getElem.1 hp s t l1 l2 hlt
    change (gslotsAll H W bl ri be)[s] = x' at e1
    change (gslotsAll H W bl ri be)[t] = y' at e2
    have e1' : (gslots H W bl ri be bl.length 0 0)[s] = x' := e1
    have e2' : (gslots H W bl ri be bl.length 0 0)[t] = y' := e2
    rw [e1', e2'] at this
    exact this (d1.trans d2.symm) a b at_ g1 g2
  intro s t a b x y h1 h2 d1 d2 g1 g2
  rcases Nat.lt_trichotomy s t with hlt | rfl | hlt
  · exact (one s t a b x y hlt h1 h2 d1 d2 g1 g2).elim
  · rw [h1] at h2
    cases h2
    refine ⟨rfl, ?_⟩
    rw [List.getElem?_map, Option.map_eq_some_iff] at h1
    obtain ⟨x', hx', rfl⟩ := h1
    obtain ⟨j, hj, hr, hb⟩ := gslots_from bl.length 0 0 x' (List.mem_of_getElem? hx')
    change x'.2.2[a]? = some at_ at g1
    change x'.2.2[b]? = some at_ at g2
    rw [hr] at g1 g2
    exact (run_uniq hc (way := if x'.2.1 then 1 else 0) (by cases x'.2.1 <;> simp) hb hb a b at_ g1 g2).2
  · exact (one t s b a y x hlt h2 h1 d2 d1 g2 g1).elim
theorem slotsOf_mem {H W : Int} {bl ri be : List Bool} (hc : gcheck H W bl ri be = 0) : ∀ x ∈ slotsOf H W bl ri be, ∀ c ∈ x.f2, 0 ≤ c := by
  intro x hx c hcm
  unfold slotsOf at hx
  rw [if_pos hc] at hx
  obtain ⟨y, hy, rfl⟩ := List.mem_map.1 hx
  obtain ⟨j, hj, hr, hb⟩ := gslots_from bl.length 0 0 y hy
  change c ∈ y.2.2 at hcm
  rw [hr] at hcm
  have hw : (if y.2.1 then (1 : Int) else 0) = 0 ∨ (if y.2.1 then (1 : Int) else 0) = 1 := by cases y.2.1 <;> simp
  have hs : (gStep H W bl ri be j (if y.2.1 then 1 else 0)).2 = true := by
    unfold gbegins at hb
    rw [Bool.and_eq_true] at hb
    exact hb.2
  have := gStep_yes hc hw hs
  exact (grun_mem hc hw bl.length j (by omega) (by omega) c hcm).1
theorem beside_step {H W : Int} {bl ri be : List Bool} (hc : gcheck H W bl ri be = 0) {at_ : Int} (h0 : 0 ≤ at_) (h1 : at_ < bl.length) (dn : Bool) (d : Int) : stepOf H W bl ri be at_ dn d = if 0 ≤ besideOf H W bl ri be at_ dn d then besideOf H W bl ri be at_ dn d else at_ := by
  have hmem := slotsOf_mem hc
  have hu := slotsOf_uniq hc dn at_
  have hrow : seatRow H W bl ri be dn = seatPick dn (seatS (slotsOf H W bl ri be) 0 (List.replicate bl.length ⟨-1, 0⟩, List.replicate bl.length ⟨-1, 0⟩)) := by
    unfold seatRow seatsOf seatPick
    rw [if_pos hc]
  have hlen : at_ < (seatPick dn (List.replicate bl.length (⟨-1, 0⟩ : S80), List.replicate bl.length (⟨-1, 0⟩ : S80))).length := by
    unfold seatPick
    split <;> simpa using h1
  unfold stepOf besideOf
  rw [hrow]
  by_cases hx : ∃ (t o : Nat) (x : S83), (slotsOf H W bl ri be)[t]? = some x ∧ x.f1 = dn ∧ x.f2[o]? = some at_
  · obtain ⟨t, o, x, ht, hd, ho⟩ := hx
    rw [seatS_at h0 _ 0 _ t o x hlen hmem hu ht hd ho, bsL_some _ t o x hu ht hd ho]
    unfold stepSeat
    have e : rd_T83 (slotsOf H W bl ri be) ((0 + t : Nat) : Int) = x := by
      unfold rd_T83
      rw [List.getD_eq_getElem?_getD, Int.toNat_natCast, Nat.zero_add, ht]
      rfl
    simp only [e]
    rw [if_neg (by omega)]
    by_cases hr : 0 ≤ (o : Int) + d ∧ (o : Int) + d < x.f2.length
    · rw [if_pos hr, if_pos hr, if_pos]
      obtain ⟨k, hk⟩ := Int.eq_ofNat_of_zero_le hr.1
      rw [hk, rd_get (by omega)]
      exact hmem x (List.mem_of_getElem? ht) _ (List.getElem_mem _)
    · rw [if_neg hr, if_neg hr, if_neg (by decide)]
  · have hn : ∀ x ∈ slotsOf H W bl ri be, x.f1 = dn → ∀ o : Nat, x.f2[o]? ≠ some at_ := fun x hm hd o ho => by
      obtain ⟨t, ht⟩ := List.getElem?_of_mem hm
      exact hx ⟨t, o, x, ht, hd, ho⟩
    rw [seatS_not h0 _ 0 _ hlen hmem hn, bsL_none _ hn]
    have e : rd_T80 (seatPick dn (List.replicate bl.length (⟨-1, 0⟩ : S80), List.replicate bl.length (⟨-1, 0⟩ : S80))) at_ = ⟨-1, 0⟩ := by
      unfold seatPick rd_T80
      have hk : at_.toNat < bl.length := by omega
      split <;> simp [List.getD_eq_getElem?_getD, hk]
    rw [e]
    unfold stepSeat
    rw [if_pos (by decide), if_neg (by decide)]
end Go.Proofs.YtiipailmldbpbaaGreatDoor.Q
end
section
namespace Go.Proofs.YtiipailmldbpbaaGreatDoor.Q
open Go.RowKit Go.Proofs.YtiipailmldbpbaaGreatDoorW.PrintWords Go.Proofs.YtiipailmldbpbaaGreatDoorW.PrintLast Go.Proofs.YtiipailmldbpbaaGreatDoorW.PrintMore
set_option linter.unusedVariables false
set_option linter.unusedSimpArgs false
open Go.Proofs.YtiipailmldbpbaaGreatDoorS
def bsM (b : Bool) (o : Option Int) (T : Int) : Int := if b then o.getD T else T
theorem bsL_drop {dn : Bool} {at_ d : Int} {L : List S83} {j : Nat} {x : S83} (hj : j < L.length) (hx : L[j] = x) : bsL dn at_ d (L.drop j) = bsM (x.f1 == dn) (bsC x.f2 at_ d x.f2.length 0) (bsL dn at_ d (L.drop (j + 1))) := by
  rw [List.drop_eq_getElem_cons hj, hx]
  simp only [bsL, bsM, beq_iff_eq]
  split
  · cases bsC x.f2 at_ d x.f2.length 0 <;> rfl
  · rfl
theorem bsC_step {cs : List Int} {at_ d : Int} {n i : Nat} (hi : i < n) : bsC cs at_ d (n - i) i = if rd cs (i : Int) = at_ ∧ 0 ≤ (i : Int) + d ∧ (i : Int) + d < cs.length then some (rd cs ((i : Int) + d)) else bsC cs at_ d (n - (i + 1)) (i + 1) := by
  obtain ⟨m, hm⟩ : ∃ m, n - i = m + 1 := ⟨n - i - 1, by omega⟩
  rw [hm, show n - (i + 1) = m by omega]
  rfl
theorem bsC_end {cs : List Int} {at_ d : Int} {n i : Nat} (hi : n ≤ i) : bsC cs at_ d (n - i) i = none := by
  rw [show n - i = 0 by omega]
  rfl
set_option maxHeartbeats 8000000 in
set_option maxRecDepth 1000000 in
theorem rebusref23_beside.calls {title : ByteArray} {H W : Int} {A2 : Option Addr} {c2 : Nat} {bl : List Bool} {A3 : Option Addr} {c3 : Nat} {ri : List Bool} {A4 : Option Addr} {c4 : Nat} {be : List Bool} {A5 : Option Addr} {c5 : Nat} {cells : List ByteArray} {A6 : Option Addr} {c6 : Nat} {clues : List ByteArray} {A7 : Option Addr} {n7 c7 : Nat} {A8 : Option Addr} {n8 c8 : Nat} {at_ : Int} {dn : Bool} {d : Int} {w : World} (hP : PuzR A2 c2 bl A3 c3 ri A4 c4 be A5 c5 cells A6 c6 clues w) (hg : gcheck H W bl ri be = 0) (hd : -1 ≤ d ∧ d ≤ 1) :
    Calls Tryz.prog 24 #[.agg #[.string title, .int .i64 H, .int .i64 W, .slice A2 bl.length c2, .slice A3 ri.length c3, .slice A4 be.length c4, .slice A5 cells.length c5, .slice A6 clues.length c6], .agg #[.slice A7 n7 c7, .slice A8 n8 c8, .int .i64 at_, .bool dn], .int .i64 d] w fun e w' => e = .returned (.int .i64 (besideOf H W bl ri be at_ dn d)) ∧ Below w.heap.size w w' := by
  have hx := box2 w (.cells #[.string title, .int .i64 H, .int .i64 W, .slice A2 bl.length c2, .slice A3 ri.length c3, .slice A4 be.length c4, .slice A5 cells.length c5, .slice A6 clues.length c6] 27) (.cells #[.slice A7 n7 c7, .slice A8 n8 c8, .int .i64 at_, .bool dn] 29)
  replace hx := Lib.hid hx
  have hu27 := Tryz.underlying27
  have hu24 := Tryz.underlying24
  have hu30 := Tryz.underlying29
  obtain ⟨hL1, hL2⟩ := slotsOf_facts hg
  have h256 : bl.length ≤ 256 := by have := (Dims.of hg).n; have := (Dims.of hg).b; omega
  obtain ⟨L, hL⟩ : ∃ L, slotsOf H W bl ri be = L := ⟨_, rfl⟩
  obtain ⟨V, hV⟩ : ∃ V, besideOf H W bl ri be at_ dn d = V := ⟨_, rfl⟩
  have hv : V = bsL dn at_ d L := by rw [← hV, ← hL]; rfl
  rw [hV]
  rw [hL] at hL1 hL2
  have hL3 : L.length ≤ 512 := by omega
  replace hL2 := Lib.hid hL2
  clear hL1 hV hg
  replace hL := Lib.hid hL
  replace hv := Lib.hid hv
  go_enter Tryz.func24, Tryz.ntmps24
  go_wp2_with (first
    | (go_at_call 51; go_must (refine (rebusref07_List.calls (hP.below hx.out.2.2).gridC).mono ?_; rintro e w3 ⟨vL, rfl, hLr, hb3⟩; rw [hL.out] at hLr; obtain ⟨AL, cL, rfl⟩ := Kd.S_slice hLr; have hB3 := Lib.hid (below_step hx.out.2.2 hb3); have bS := Lib.hid (blk_below hx.out.2.1 hb3); have s3 := cells4 bS.out; replace hLr := Lib.hid hLr; clear hb3)))
  go_loopw [8] (fun v8 wr => ∃ (j : Nat) (p : Int), v8 = .int .i64 p ∧ Hid (p = j ∧ j ≤ L.length) ∧ Hid (V = bsL dn at_ d (L.drop j)) ∧ Hid (Below w3.heap.size w3 wr)) (fun v8 _ => L.length - (intOf v8).toNat)
  case atStart => exact ⟨0, 0, rfl, Lib.hid ⟨rfl, Nat.zero_le _⟩, Lib.hid (by rw [List.drop_zero]; exact hv.out), Lib.hid (Below.refl _ _)⟩
  case round =>
    obtain ⟨j, p, rfl, hp, hr, hB⟩ := hrel
    have s4 := cells4 (blk_below bS.out hB.out)
    by_cases hlt : j < L.length
    · have hp0 : 0 ≤ p := by have := hp.out; omega
      have hp1 : p < (L.length : Int) := by have := hp.out; omega
      have hp3 : p < 512 := by omega
      obtain ⟨ad, ck, B, kk, eL, z0, z1, z2, hRc⟩ := slot_cells (Kd.S_below hLr.out hB.out) p hp0 hp1
      cases eL
      obtain ⟨x, hxx⟩ : ∃ x, rd_T83 L p = x := ⟨_, rfl⟩
      have e1 : L[j] = x := by rw [← hxx, hp.out.1]; unfold rd_T83; simp [List.getD_eq_getElem?_getD, hlt]
      have hst := bsL_drop (dn := dn) (at_ := at_) (d := d) hlt e1
      have hxl : x.f2.length ≤ 256 := by have := (hL2.out x (by rw [← e1]; exact List.getElem_mem _)).1; omega
      rw [hxx] at z0 z1 z2 hRc
      obtain ⟨x0, x1, cs⟩ := x
      dsimp only at z0 z1 z2 hRc hst hxl
      obtain ⟨T, hT⟩ : ∃ T, bsL dn at_ d (L.drop (j + 1)) = T := ⟨_, rfl⟩
      rw [hT] at hst
      have hr2 : V = bsM (x1 == dn) (bsC cs at_ d cs.length 0) T := by rw [hr.out, hst]
      replace hr2 := Lib.hid hr2
      replace hT := Lib.hid hT
      replace hRc := Lib.hid hRc
      replace hlt := Lib.hid hlt
      clear hst hr e1 hxx
      go_wp2
      go_hide hQ
      go_loopw [9] (fun v9 wi => ∃ (i : Nat) (q : Int), v9 = .int .i64 q ∧ Hid (q = i ∧ i ≤ cs.length) ∧ Hid (V = bsM (x1 == dn) (bsC cs at_ d (cs.length - i) i) T) ∧ Hid (Below wr.heap.size wr wi)) (fun v9 _ => cs.length - (intOf v9).toNat)
      case atStart => exact ⟨0, 0, rfl, Lib.hid ⟨rfl, Nat.zero_le _⟩, hr2, Lib.hid (Below.refl _ _)⟩
      case round =>
        clear hr2
        obtain ⟨i, q, rfl, hq, hr, hBi⟩ := hrel
        have y0 := pw_cell_below hBi.out z0
        have y1 := pw_cell_below hBi.out z1
        have y2 := pw_cell_below hBi.out z2
        have s5 := cells4 (blk_below (blk_below bS.out hB.out) hBi.out)
        by_cases hi : i < cs.length
        · have hq0 : 0 ≤ q := by have := hq.out; omega
          have hq1 : q < (cs.length : Int) := by have := hq.out; omega
          have hq3 : q < 256 := by omega
          have hrow := (Kd.R_reads' (Kd.R_below hRc.out hBi.out)).2.2
          obtain ⟨a2, eB, zc⟩ := Kd.at_int hrow q hq0 hq1
          cases eB
          have hst := bsC_step (cs := cs) (at_ := at_) (d := d) hi
          rw [← hq.out.1] at hst
          obtain ⟨c, hcc⟩ : ∃ c, rd cs q = c := ⟨_, rfl⟩
          rw [hcc] at hst zc
          have hw : wrap64 (q + d) = q + d := w64 (by omega) (by omega)
          have next : ∀ {G : Prop}, (V = bsM (x1 == dn) (bsC cs at_ d (cs.length - (i + 1)) (i + 1)) T → G) → (x1 = dn → ¬(c = at_ ∧ 0 ≤ q + d ∧ q + d < cs.length)) → G := fun k hn => k (by
            rw [hr.out, hst]
            cases hb : (x1 == dn) with
            | false => rfl
            | true => rw [if_neg (hn (by simpa using hb))])
          by_cases h1 : x1 = dn
          · have t1 : (x1 == dn) = true := by simpa using h1
            by_cases h2 : c = at_
            · have t2 : (c == at_) = true := by simpa using h2
              by_cases h3 : 0 ≤ q + d
              · have t3 : decide (0 ≤ q + d) = true := decide_eq_true h3
                by_cases h4 : q + d < (cs.length : Int)
                · have t4 : decide (q + d < (cs.length : Int)) = true := decide_eq_true h4
                  have hE : V = rd cs (q + d) := by
                    rw [hr.out, hst, if_pos ⟨h2, h3, h4⟩, t1]
                    rfl
                  obtain ⟨a3, eB3, zd⟩ := Kd.at_int hrow (q + d) h3 h4
                  cases eB3
                  rw [← hE] at zd
                  replace hE := Lib.hid hE
                  clear next hst hr hrow h1 h2
                  go_wp2
                  go_quiet (fail)
                  go_wp2
                  subst hQ
                  go_wp2
                  go_ret
                  exact ⟨rfl, below_step hB3.out (below_step hB.out (pw_below_drewN hBi.out _))⟩
                · have t4 : decide (q + d < (cs.length : Int)) = false := decide_eq_false h4
                  refine next (fun hE => ?_) (fun _ h => h4 h.2.2)
                  replace hE := Lib.hid hE
                  replace hi := Lib.hid hi
                  clear next hst hr hrow h1 h2 h4
                  go_wp2
                  go_quiet (fail)
                  go_wp2
                  refine ⟨⟨i + 1, q + 1, rfl, Lib.hid ⟨by have := hq.out; omega, hi.out⟩, hE, Lib.hid (pw_below_drewN hBi.out _)⟩, ?_⟩
                  simp only [intOf]; have := hq.out; have := hi.out; omega
              · have t3 : decide (0 ≤ q + d) = false := decide_eq_false h3
                refine next (fun hE => ?_) (fun _ h => h3 h.2.1)
                replace hE := Lib.hid hE
                replace hi := Lib.hid hi
                clear next hst hr hrow h1 h2 h3
                go_wp2
                go_quiet (fail)
                go_wp2
                refine ⟨⟨i + 1, q + 1, rfl, Lib.hid ⟨by have := hq.out; omega, hi.out⟩, hE, Lib.hid (pw_below_drewN hBi.out _)⟩, ?_⟩
                simp only [intOf]; have := hq.out; have := hi.out; omega
            · have t2 : (c == at_) = false := by simpa using h2
              refine next (fun hE => ?_) (fun _ h => h2 h.1)
              replace hE := Lib.hid hE
              replace hi := Lib.hid hi
              clear next hst hr hrow h1 h2
              go_wp2
              go_quiet (fail)
              go_wp2
              refine ⟨⟨i + 1, q + 1, rfl, Lib.hid ⟨by have := hq.out; omega, hi.out⟩, hE, Lib.hid (pw_below_drewN hBi.out _)⟩, ?_⟩
              simp only [intOf]; have := hq.out; have := hi.out; omega
          · have t1 : (x1 == dn) = false := by simpa using h1
            refine next (fun hE => ?_) (fun h _ => h1 h)
            replace hE := Lib.hid hE
            replace hi := Lib.hid hi
            clear next hst hr hrow h1
            go_wp2
            go_quiet (fail)
            go_wp2
            refine ⟨⟨i + 1, q + 1, rfl, Lib.hid ⟨by have := hq.out; omega, hi.out⟩, hE, Lib.hid (pw_below_drewN hBi.out _)⟩, ?_⟩
            simp only [intOf]; have := hq.out; have := hi.out; omega
        · have hge : ¬ q < (cs.length : Int) := by have := hq.out; omega
          have hE : V = bsL dn at_ d (L.drop (j + 1)) := by
            rw [hr.out, bsC_end (by have := hq.out; omega), hT.out]
            unfold bsM
            split <;> rfl
          replace hE := Lib.hid hE
          clear hr
          go_wp2
          subst hQ
          go_wp2
          refine ⟨⟨j + 1, p + 1, rfl, Lib.hid ⟨by have := hp.out; omega, hlt.out⟩, hE, Lib.hid (below_step hB.out hBi.out)⟩, ?_⟩
          simp only [intOf]; have := hp.out; have := hlt.out; omega
    · have hge : ¬ p < (L.length : Int) := by have := hp.out; omega
      have hE : V = -1 := by rw [hr.out, List.drop_of_length_le (by have := hp.out; omega)]; rfl
      replace hE := Lib.hid hE
      clear hr
      go_wp2
      go_ret
      exact ⟨by rw [hE.out]; rfl, below_step hB3.out hB.out⟩
end Go.Proofs.YtiipailmldbpbaaGreatDoor.Q
end
section
namespace Go.Proofs.YtiipailmldbpbaaGreatDoor.Q
open Go.RowKit Go.Proofs.YtiipailmldbpbaaGreatDoorW.PrintWords Go.Proofs.YtiipailmldbpbaaGreatDoorW.PrintLast Go.Proofs.YtiipailmldbpbaaGreatDoorW.PrintMore
set_option linter.unusedVariables false
set_option linter.unusedSimpArgs false
open Go.Proofs.YtiipailmldbpbaaGreatDoorS
theorem enc_q (n d : Nat) (h : n ≤ 1114111) : wrap64 (Int.tdiv (n : Int) (d : Int)) = ((n / d : Nat) : Int) := by
  rw [← Int.ofNat_tdiv]
  have := Nat.div_le_self n d
  generalize n / d = q at this ⊢
  exact w64 (by omega) (by omega)
theorem enc_b (c m : Nat) (h : c + m < 256) : wrap64 ((c : Int) + (m : Int)) % 256 = ((c + m : Nat) : Int) := by
  rw [w64 (by omega) (by omega)]
  omega
theorem enc_r (n : Nat) : 128 + n % 64 < 256 := by omega
theorem enc_d1 (n : Nat) (h : n < 2048) : 192 + n / 64 < 256 := by omega
theorem enc_d2 (n : Nat) (h : n < 65536) : 224 + n / 4096 < 256 := by omega
theorem enc_d3 (n : Nat) (h : n ≤ 1114111) : 240 + n / 262144 < 256 := by omega
theorem enc_0 (n : Nat) (h : n < 128) : (n : Int) % 256 = (n : Int) := by omega
theorem enc_m (n d : Nat) : Int.tmod (n : Int) (d : Int) = ((n % d : Nat) : Int) := (Int.ofNat_tmod n d).symm
theorem encode_eq (r : Int) (h0 : -2147483648 ≤ r) (h1 : r ≤ 2147483647) (k : Nat) (hk : 1 ≤ k) : rebusref01_Encode.f k r = some (Utf8.encode r) := by
  obtain ⟨k, rfl⟩ : ∃ m, k = m + 1 := ⟨k - 1, by omega⟩
  unfold rebusref01_Encode.f
  rw [w64 (x := r) (by omega) (by omega)]
  have bad : ¬ Utf8.valid r = true → Utf8.encode r = ⟨#[239, 191, 189]⟩ := by
    intro hv
    have hv' : Utf8.valid r = false := by simpa using hv
    unfold Utf8.encode
    rw [hv']
    simp only [Bool.false_eq_true, if_false, Utf8.runeError]
    decide +kernel
  have good : 0 ≤ r → ¬ 1114111 < r → ¬ (55296 ≤ r ∧ r ≤ 57343) → rebusref01_Encode.j0 (k + 1) r false = some (Utf8.encode r) := by
    intro a b c
    obtain ⟨n, rfl⟩ := Int.eq_ofNat_of_zero_le a
    have hn : n ≤ 1114111 := by omega
    have hv : Utf8.valid (n : Int) = true := by simp [Utf8.valid]; omega
    simp only [rebusref01_Encode.j0]
    rw [if_neg (by decide)]
    unfold Utf8.encode
    rw [hv]
    simp only [if_true, Int.toNat_natCast]
    have q1 := enc_q n 64 hn
    have q2 := enc_q n 4096 hn
    have q3 := enc_q n 262144 hn
    have m1 := enc_m n 64
    have m2 := enc_m (n / 64) 64
    have m3 := enc_m (n / 4096) 64
    have b1 := enc_b 128 (n % 64) (enc_r n)
    have b2 := enc_b 128 (n / 64 % 64) (enc_r (n / 64))
    have b3 := enc_b 128 (n / 4096 % 64) (enc_r (n / 4096))
    have cc : ∀ m : Nat, m ≤ 65536 → (((n : Int) < (m : Int)) ↔ n < m) := fun m _ => Int.ofNat_lt
    have c128 := cc 128 (by decide)
    have c2048 := cc 2048 (by decide)
    have c65536 := cc 65536 (by decide)
    simp only [Int.cast_ofNat_Int] at q1 q2 q3 m1 m2 m3 b1 b2 b3 c128 c2048 c65536
    by_cases c1 : n < 128
    · rw [if_pos (c128.2 c1), if_pos c1, enc_0 n c1]
      simp only [strOfNums, List.map_cons, List.map_nil, Int.toNat_natCast]
    · rw [if_neg (fun h => c1 (c128.1 h)), if_neg c1]
      by_cases c2 : n < 2048
      · have b4 := enc_b 192 (n / 64) (enc_d1 n c2)
        simp only [Int.cast_ofNat_Int] at b4
        rw [if_pos (c2048.2 c2), if_pos c2, q1, m1, b4, b1]
        simp only [strOfNums, List.map_cons, List.map_nil, Int.toNat_natCast]
      · rw [if_neg (fun h => c2 (c2048.1 h)), if_neg c2]
        by_cases c3 : n < 65536
        · have b4 := enc_b 224 (n / 4096) (enc_d2 n c3)
          simp only [Int.cast_ofNat_Int] at b4
          rw [if_pos (c65536.2 c3), if_pos c3, q2, q1, m1, m2, b4, b1, b2]
          simp only [strOfNums, List.map_cons, List.map_nil, Int.toNat_natCast]
        · have b4 := enc_b 240 (n / 262144) (enc_d3 n hn)
          simp only [Int.cast_ofNat_Int] at b4
          rw [if_neg (fun h => c3 (c65536.1 h)), if_neg c3, q3, q2, q1, m1, m2, m3, b4, b1, b2, b3]
          simp only [strOfNums, List.map_cons, List.map_nil, Int.toNat_natCast]
  by_cases a : r < 0
  · rw [if_pos a, bad (by simp [Utf8.valid]; omega)]
    simp only [rebusref01_Encode.j0, if_true]
  · rw [if_neg a]
    by_cases b : r > 1114111
    · rw [if_pos b, bad (by simp [Utf8.valid]; omega)]
      simp only [rebusref01_Encode.j0, if_true]
    · rw [if_neg b]
      by_cases c : r ≥ 55296
      · rw [if_pos c]
        by_cases d : r ≤ 57343
        · rw [decide_eq_true d, bad (by simp [Utf8.valid]; omega)]
          simp only [rebusref01_Encode.j0, if_true]
        · rw [decide_eq_false d]
          exact good (by omega) (by omega) (by omega)
      · rw [if_neg c]
        exact good (by omega) (by omega) (by omega)
theorem places_l0 (s : ByteArray) (hz : s.size ≤ 8388608) : ∀ (f i k : Nat) (xs : List Int), s.size ≤ i + f → f + 10 < k → xs.length ≤ i → ∃ ys, rebusref01_Places.l0 k s xs (i : Int) = some ys ∧ ys.length = xs.length + (ulist s f i).length := by
  intro f
  induction f with
  | zero =>
    intro i k xs hi hk hx
    obtain ⟨k, rfl⟩ : ∃ m, k = m + 1 := ⟨k - 1, by omega⟩
    simp only [rebusref01_Places.l0]
    rw [if_neg (by omega)]
    exact ⟨xs, rfl, by simp [ulist]⟩
  | succ f ih =>
    intro i k xs hi hk hx
    obtain ⟨k, rfl⟩ : ∃ m, k = m + 1 := ⟨k - 1, by omega⟩
    by_cases hlt : i < s.size
    · have h4 := decode_le4 s i
      have h1 := width_pos s i hlt
      obtain ⟨ys, hy, hl⟩ := ih (i + (Utf8.decode s i).2) k (xs ++ [(i : Int)]) (by omega) (by omega) (by simp only [List.length_append, List.length_singleton]; omega)
      simp only [rebusref01_Places.l0]
      rw [if_pos (by omega), if_pos (by omega), next_eq2 k (by omega) s i hlt (by omega)]
      simp only [Option.bind_some]
      rw [w64 (by omega) (by omega), ulist_step s f i hlt, show ((i : Int) + ((Utf8.decode s i).2 : Int)) = ((i + (Utf8.decode s i).2 : Nat) : Int) by omega]
      refine ⟨ys, hy, ?_⟩
      rw [hl]
      simp only [List.length_append, List.length_singleton, List.length_cons, List.length_nil]
      omega
    · simp only [rebusref01_Places.l0]
      rw [if_neg (by omega), ulist_end s _ i hlt]
      exact ⟨xs, rfl, rfl⟩
theorem count_eq (s : ByteArray) (hz : s.size ≤ 8388608) (k : Nat) (hk : s.size + 10 < k) : rebusref01_Count.f k s = some (ucount s : Int) := by
  obtain ⟨ys, hy, hl⟩ := places_l0 s hz s.size 0 k [] (by omega) hk (Nat.le_refl _)
  unfold rebusref01_Count.f rebusref01_Places.f
  rw [show ((0 : Nat) : Int) = 0 from rfl] at hy
  rw [hy]
  simp only [Option.bind_some]
  rw [hl]
  simp [ucount, uall]
theorem encode_calls (r : Int) (h0 : -2147483648 ≤ r) (h1 : r ≤ 2147483647) (w : World) : Calls Tryz.prog 49 #[.int .i32 r] w fun e w' => e = .returned (.string (Utf8.encode r)) ∧ Below w.heap.size w w' :=
  rebusref01_Encode.calls 1 r _ w (encode_eq r h0 h1 1 (Nat.le_refl _))
theorem count_calls (s : ByteArray) (hz : s.size ≤ 8388608) (w : World) : Calls Tryz.prog 23 #[.string s] w fun e w' => e = .returned (.int .i64 (ucount s)) ∧ Below w.heap.size w w' :=
  rebusref01_Count.calls _ s _ w (count_eq s hz (s.size + 11) (by omega))
theorem runes_calls (s : ByteArray) (hz : s.size ≤ 1048576) (w : World) : Calls Tryz.prog 45 #[.string s] w fun e w' => ∃ v, e = .returned v ∧ Kd.R (Kd.int .i32) 21 w' w.heap.size (fun _ => True) v (urunes s) ∧ Below w.heap.size w w' :=
  (rebusref01_Runes.calls _ s _ w (runes_eq s hz (s.size + 11) (by omega))).mono fun e w' ⟨v, he, hr, hb⟩ => ⟨v, he, hr, hb⟩
end Go.Proofs.YtiipailmldbpbaaGreatDoor.Q
end
section
namespace Go.Proofs.YtiipailmldbpbaaGreatDoor.Q
open Go.RowKit Go.Proofs.YtiipailmldbpbaaGreatDoorW.PrintWords Go.Proofs.YtiipailmldbpbaaGreatDoorW.PrintLast Go.Proofs.YtiipailmldbpbaaGreatDoorW.PrintMore
set_option linter.unusedVariables false
set_option linter.unusedSimpArgs false
open Go.Proofs.YtiipailmldbpbaaGreatDoorS
theorem uupper_rune {r : Int} (h0 : -2147483648 ≤ r) (h1 : r ≤ 2147483647) : -2147483648 ≤ uupper r ∧ uupper r ≤ 2147483647 := by
  unfold uupper
  repeat' split
  all_goals omega
theorem piece_yes {r : Int} (h : uclass r = 1) : upiece false r = (Utf8.encode (uupper r)).data.toList := by
  unfold upiece
  rw [if_pos h]
  rfl
theorem piece_no {r : Int} (h : ¬ uclass r = 1) : upiece false r = [] := by
  unfold upiece
  rw [if_neg h]
set_option maxHeartbeats 8000000 in
set_option maxRecDepth 1000000 in
theorem rebusref02_Fold.calls (s : ByteArray) (hz : s.size ≤ 1048576) (w : World) : Calls Tryz.prog 22 #[.string s, .bool false] w fun e w' => e = .returned (.string (ufold s false)) ∧ Below w.heap.size w w' := by
  have hrg := Lib.hid (urunes_range s)
  have hlen : (urunes s).length ≤ 1048576 := by
    have h : ∀ f p, (ulist s f p).length ≤ f := by
      intro f
      induction f with
      | zero => intro p; simp [ulist]
      | succ f ih =>
        intro p
        unfold ulist
        split
        · have := ih (p + (Utf8.decode s p).2)
          simp only [List.length_cons]
          omega
        · simp
    have := h s.size 0
    simp only [urunes, uall, List.length_map]
    omega
  have hr := runes_calls s hz
  obtain ⟨l, hl⟩ : ∃ l, urunes s = l := ⟨_, rfl⟩
  obtain ⟨V, hV⟩ : ∃ V, ufold s false = V := ⟨_, rfl⟩
  have hv : V = ⟨(l.flatMap (upiece false)).toArray⟩ := by rw [← hV, ← hl]; rfl
  rw [hl] at hrg hlen
  rw [hV]
  simp only [hl] at hr
  clear hl hV
  replace hv := Lib.hid hv
  replace hr := Lib.hid hr
  go_enter Tryz.func22, Tryz.ntmps22
  go_wp2_with (first
    | (go_at_call 45; go_must (refine (hr.out _).mono ?_; rintro e w3 ⟨v, rfl, rv, hb3⟩; obtain ⟨A, c, rfl⟩ := Kd.R_slice rv; have hR := Lib.hid rv; have hB3 := Lib.hid hb3; clear rv hb3)))
  go_loopw [6, 7] (fun v6 v7 wr => ∃ (i : Nat) (q : Int) (o : ByteArray), v6 = .string o ∧ v7 = .int .i64 q ∧ Hid (q = i ∧ i ≤ l.length) ∧ Hid (l.flatMap (upiece false) = o.data.toList ++ (l.drop i).flatMap (upiece false)) ∧ Hid (o.size ≤ 4 * i) ∧ Hid (Below w3.heap.size w3 wr)) (fun v6 v7 _ => l.length - (intOf v7).toNat)
  case atStart => exact ⟨0, 0, ⟨#[]⟩, rfl, rfl, Lib.hid ⟨rfl, Nat.zero_le _⟩, Lib.hid (by rw [List.drop_zero]; rfl), Lib.hid (Nat.zero_le _), Lib.hid (Below.refl _ _)⟩
  case round =>
    obtain ⟨i, q, o, rfl, rfl, hq, hg, ho, hB⟩ := hrel
    by_cases hlt : i < l.length
    · have hq0 : 0 ≤ q := by have := hq.out; omega
      have hq1 : q < (l.length : Int) := by have := hq.out; omega
      have hq3 : q < 1048577 := by omega
      obtain ⟨ad, eA, zr⟩ := Kd.at_int (Kd.R_reads' (Kd.R_below hR.out hB.out)).2.2 q hq0 hq1
      cases eA
      obtain ⟨r, hrr⟩ : ∃ x, rd l q = x := ⟨_, rfl⟩
      have e1 : l[i] = r := by rw [← hrr, hq.out.1]; simp [rd, List.getD_eq_getElem?_getD, hlt]
      have hst : (l.drop i).flatMap (upiece false) = upiece false r ++ (l.drop (i + 1)).flatMap (upiece false) := by rw [List.drop_eq_getElem_cons hlt, List.flatMap_cons, e1]
      have hr1 := hrg.out r (by rw [← e1]; exact List.getElem_mem _)
      rw [hrr] at zr
      clear hrr e1
      by_cases hc : uclass r = 1
      · have tc : (uclass r != 1) = false := by rw [hc]; rfl
        have hu := uupper_rune hr1.1 hr1.2
        obtain ⟨u, hu0⟩ : ∃ u, uupper r = u := ⟨_, rfl⟩
        rw [piece_yes hc, hu0] at hst
        rw [hu0] at hu
        have hes := encode_size u
        obtain ⟨en, hen⟩ : ∃ x, Utf8.encode u = x := ⟨_, rfl⟩
        rw [hen] at hst hes
        have hE : l.flatMap (upiece false) = (o ++ en).data.toList ++ (l.drop (i + 1)).flatMap (upiece false) := by rw [hg.out, hst, ByteArray.data_append, Array.toList_append, List.append_assoc]
        have ho2 : (o ++ en).size ≤ 4 * (i + 1) := by rw [ByteArray.size_append]; have := ho.out; omega
        have hs1 : o.size + en.size ≤ 9223372036854775807 := by have := ho.out; omega
        replace hE := Lib.hid hE
        replace ho2 := Lib.hid ho2
        replace hlt := Lib.hid hlt
        replace hu0 := Lib.hid hu0
        replace hen := Lib.hid hen
        clear hst hg hes
        go_wp2_with (first
          | (go_at_call 46; go_must (refine (rebusref02_Class.calls r hr1.1 hr1.2 _).mono ?_; rintro e w5 ⟨rfl, rfl⟩))
          | (go_at_call 47; go_must (refine (rebusref02_Upper.calls r hr1.1 hr1.2 _).mono ?_; rintro e w6 ⟨rfl, rfl⟩; rw [hu0.out]))
          | (go_at_call 49; go_must (refine (encode_calls u hu.1 hu.2 _).mono ?_; rintro e w7 ⟨rfl, hb7⟩; rw [hen.out])))
        refine ⟨⟨i + 1, q + 1, o ++ en, rfl, rfl, Lib.hid ⟨by have := hq.out; omega, hlt.out⟩, hE, ho2, Lib.hid (below_step hB.out hb7)⟩, ?_⟩
        simp only [intOf]; have := hq.out; have := hlt.out; omega
      · have tc : (uclass r != 1) = true := bne_iff_ne.2 hc
        rw [piece_no hc, List.nil_append] at hst
        have hE : l.flatMap (upiece false) = o.data.toList ++ (l.drop (i + 1)).flatMap (upiece false) := by rw [hg.out, hst]
        replace hE := Lib.hid hE
        replace hlt := Lib.hid hlt
        clear hst hg hc
        go_wp2_with (first
          | (go_at_call 46; go_must (refine (rebusref02_Class.calls r hr1.1 hr1.2 _).mono ?_; rintro e w5 ⟨rfl, rfl⟩)))
        refine ⟨⟨i + 1, q + 1, o, rfl, rfl, Lib.hid ⟨by have := hq.out; omega, hlt.out⟩, hE, Lib.hid (by have := ho.out; omega), hB⟩, ?_⟩
        simp only [intOf]; have := hq.out; have := hlt.out; omega
    · have hge : ¬ q < (l.length : Int) := by have := hq.out; omega
      have hE : V = o := by
        rw [hv.out, hg.out, List.drop_of_length_le (by omega)]
        simp
      replace hE := Lib.hid hE
      clear hg
      go_wp2
      go_ret
      exact ⟨by rw [hE.out]; rfl, below_step hB3.out hB.out⟩
end Go.Proofs.YtiipailmldbpbaaGreatDoor.Q
end
