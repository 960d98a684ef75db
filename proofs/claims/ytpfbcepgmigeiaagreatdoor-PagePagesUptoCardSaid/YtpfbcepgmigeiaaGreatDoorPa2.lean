/- PART 2 OF A PROOF: Lean functions, and that the program computes them; written by hand and by a program. Not trusted: Lean checks it. -/
import Derived.BigCall
import Derived.Deep.RegionHeld3
import Derived.Laws.BitsLemmas
import Derived.Lib.RuneCountTail
import Derived.OrdersHeld
import Derived.Outline
import Derived.RowKit
import Derived.Test.YtpfbcepgmigeiaaGreatDoorPa0
import Derived.Test.YtpfbcepgmigeiaaGreatDoorPa1
set_option linter.unusedVariables false
set_option linter.unusedSimpArgs false
section
namespace Go.Proofs.YtpfbcepgmigeiaaGreatDoorW.PrintLast
section
variable {P : Program} {ops : Array Oper} {Q : Exit → Act → World → Prop} {md : Region.Mode} {S : World → Prop} {ds : List Nat}
def Region.reachB (md : Region.Mode) (ops : Array Oper) (i : Nat) : Nat → Nat → Bool
  | 0,_=>false
  | fuel + 1,d=>match ops[d]? with
    | some o=>o.after.any fun e=>Region.binds md e && (e.on == i || Region.reachB md ops i fuel e.on)
    | none=>false
def Region.closedB (md : Region.Mode) (ops : Array Oper) (listed : Array Bool) : Bool :=
  (List.range ops.size).all fun j=>!listed.getD j false || match ops[j]? with
    | some o=>o.after.all fun e=>!Region.binds md e || listed.getD e.on false
    | none=>true
def Region.lastB (md : Region.Mode) (ops : Array Oper) (listed : Array Bool) (ds : List Nat) (i : Nat) : Bool :=
  ds.all fun d=>listed.getD d true || Region.reachB md ops i ops.size d
def ListedClosed (md : Region.Mode) (ops : Array Oper) (listed : Array Bool) : Prop :=
  ∀ j oj,ops[j]? = some oj → listed.getD j false = true → ∀ e ∈ oj.after,Region.binds md e = true → listed.getD e.on false = true
theorem Region.closedB_spec {listed : Array Bool} (h : Region.closedB md ops listed = true) : ListedClosed md ops listed:=by
  intro j oj hj hl e he hb
  have hlt : j < ops.size:=(Array.getElem?_eq_some_iff.1 hj).1
  have h1:=List.all_eq_true.1 h j (List.mem_range.2 hlt)
  simp only [hl,hj,Bool.not_true,Bool.false_or] at h1
  have h2:=Array.all_eq_true_iff_forall_mem.1 h1 e he
  simpa [hb] using h2
theorem ListedClosed.set {listed : Array Bool} {i : Nat} (h : ListedClosed md ops listed) (hi : i ∈ Region.ready md ops listed) : ListedClosed md ops (listed.setIfInBounds i true):=by
  obtain ⟨_,oi,hoi,hall⟩:=mem_ready.1 hi
  intro j oj hj hl e he hb
  by_cases hij : i = j
  · subst hij
    have : oj = oi:=Option.some.inj (hj.symm.trans hoi)
    subst this
    exact getD_set_true (hall e he hb)
  · rw [getD_set_ne false hij] at hl
    exact getD_set_true (h j oj hj hl e he hb)
theorem Region.reach_listed {listed : Array Bool} {i : Nat} (hc : ListedClosed md ops listed) : ∀ (fuel d : Nat),Region.reachB md ops i fuel d = true → listed.getD d false = true → listed.getD i false = true
  | 0,_,h,_=>by simp [Region.reachB] at h
  | fuel + 1,d,h,hl=>by
    unfold Region.reachB at h
    cases ho : ops[d]? with
    | none=>rw [ho] at h;simp at h
    | some o =>
      rw [ho] at h
      obtain ⟨e,he,h1⟩:=Array.any_eq_true'.1 h
      simp only [Bool.and_eq_true,Bool.or_eq_true,beq_iff_eq] at h1
      have hle:=hc d o ho hl e he h1.1
      rcases h1.2 with h2 | h2
      · rw [← h2];exact hle
      · exact Region.reach_listed hc fuel e.on h2 hle
theorem Region.reach_not_ready {listed : Array Bool} {i d fuel : Nat} (hc : ListedClosed md ops listed) (hr : Region.reachB md ops i fuel d = true) (hun : listed.getD i true = false) : d ∉ Region.ready md ops listed:=by
  intro hd
  obtain ⟨_,o,ho,hall⟩:=mem_ready.1 hd
  have hi : listed.getD i false = true:=by
    cases fuel with
    | zero=>simp [Region.reachB] at hr
    | succ n =>
      unfold Region.reachB at hr
      rw [ho] at hr
      obtain ⟨e,he,h1⟩:=Array.any_eq_true'.1 hr
      simp only [Bool.and_eq_true,Bool.or_eq_true,beq_iff_eq] at h1
      have hle:=hall e he h1.1
      rcases h1.2 with h2 | h2
      · rw [← h2];exact hle
      · exact Region.reach_listed hc n e.on h2 hle
  rcases Nat.lt_or_ge i listed.size with h' | h'
  · simp [h'] at hun hi
    rw [hun] at hi
    cases hi
  · simp [Array.getElem?_eq_none h'] at hun
def wpAnyLast (P : Program) (md : Region.Mode) (ops : Array Oper) (Q : Exit → Act → World → Prop) (S : World → Prop) (ds : List Nat) : Nat → Array Bool → Act → World → Prop
  | 0,listed,a,w=>Region.ready md ops listed = [] ∧ Q .normal a w
  | fuel + 1,listed,a,w =>
    (Region.ready md ops listed = [] → Q .normal a w) ∧
    ∀ i ∈ Region.ready md ops listed,wpOp P ops Q i (fun a' w'=>(i ∉ ds → S w → S w') ∧ wpAnyLast P md ops Q S ds fuel (listed.setIfInBounds i true) a' w') a w
theorem wpAny_of_last : ∀ (fuel : Nat) (listed : Array Bool) (a : Act) (w : World),wpAnyLast P md ops Q S ds fuel listed a w → wpAny P md ops Q fuel listed a w
  | 0,_,_,_,h=>h
  | fuel + 1,_,_,_,h=>⟨h.1,fun i hi=>wpOp_mono (fun a' w' h'=>wpAny_of_last fuel _ a' w' h'.2) (h.2 i hi)⟩
theorem wpAnyLast_first {i : Nat} {oi : Oper} {v : Value} (hi : ops[i]? = some oi) (hsel : ∀ (j : Nat) (o : Oper) cs b,ops[j]? = some o → o.op ≠ .select cs b)
    (hQ : ∀ c a w,Q (.panic c) (a.put oi.dst v) w → Q (.panic c) a w) (n : Nat) :
    ∀ (fuel : Nat) (listed : Array Bool) (a : Act) (w : World),
      (∀ j oj,ops[j]? = some oj → j ≠ i → listed.getD j true = false → (∀ e ∈ oj.after,Region.binds md e = true → e.on ≠ i) → oi.apart ops oj = true) →
      ListedClosed md ops listed → (∀ d ∈ ds,listed.getD d true = false → Region.reachB md ops i n d = true) →
      i ∈ Region.ready md ops listed → YieldsIf P ops S oi v a → S w →
      wpAnyLast P md ops Q S ds fuel (listed.setIfInBounds i true) (a.put oi.dst v) w → wpAnyLast P md ops Q S ds (fuel + 1) listed a w:=by
  intro fuel
  induction fuel with
  | zero =>
    intro listed a w _ _ _ hr hy hS H
    refine ⟨fun h=>(by rw [h] at hr;cases hr),fun j hj=>?_⟩
    by_cases hji : j = i
    · subst hji;exact hy.wpOp hi hS ⟨fun _ h=>h,H⟩
    · have:=ready_mono hj hji
      rw [H.1] at this
      cases this
  | succ fuel ih =>
    intro listed a w hfree hc hd hr hy hS H
    refine ⟨fun h=>(by rw [h] at hr;cases hr),fun j hj=>?_⟩
    by_cases hji : j = i
    · subst hji;exact hy.wpOp hi hS ⟨fun _ h=>h,H⟩
    · have h1:=H.2 j (ready_mono hj hji)
      obtain ⟨hjun,oj,hoj,hall⟩:=mem_ready.1 hj
      have hiun:=(mem_ready.1 hr).1
      have hnot : ∀ e ∈ oj.after,Region.binds md e = true → e.on ≠ i:=fun e he hb heq=>by
        have h1:=hall e he hb
        rw [heq] at h1
        rcases Nat.lt_or_ge i listed.size with h' | h'
        · simp [h'] at hiun h1;rw [hiun] at h1;cases h1
        · simp [Array.getElem?_eq_none h'] at h1
      have hjd : j ∉ ds:=fun hm=>Region.reach_not_ready hc (hd j hm hjun) hiun hj
      have h2:=wpOp_putIf hoj (hfree j oj hoj hji hjun hnot) (fun cs b=>hsel i oi cs b hi) (fun cs b=>hsel j oj cs b hoj) hQ hy h1
      have hfree' : ∀ k ok,ops[k]? = some ok → k ≠ i → (listed.setIfInBounds j true).getD k true = false →
          (∀ e ∈ ok.after,Region.binds md e = true → e.on ≠ i) → oi.apart ops ok = true:=fun k ok hk hki hun hno=>by
        refine hfree k ok hk hki ?_ hno
        by_cases hjk : j = k
        · subst hjk;exact hjun
        · rw [getD_set_ne true hjk] at hun;exact hun
      have hd' : ∀ d ∈ ds,(listed.setIfInBounds j true).getD d true = false → Region.reachB md ops i n d = true:=fun d hm hun=>by
        refine hd d hm ?_
        by_cases hjk : j = d
        · subst hjk;exact hjun
        · rw [getD_set_ne true hjk] at hun;exact hun
      refine wpOp_mono (fun a' w' h3=>⟨h3.2.1,ih (listed.setIfInBounds j true) a' w' hfree' (hc.set hj) hd' (ready_mono hr (Ne.symm hji)) h3.1 (h3.2.1 hjd hS) ?_⟩) h2
      rw [Array.setIfInBounds_comm _ _ hji]
      exact h3.2.2
theorem wpAnyLast_any {i : Nat} {oi : Oper} {v : Value} (hi : ops[i]? = some oi) (hsel : ∀ (j : Nat) (o : Oper) cs b,ops[j]? = some o → o.op ≠ .select cs b)
    (hQ : ∀ c a w,Q (.panic c) (a.put oi.dst v) w → Q (.panic c) a w) :
    ∀ (fuel : Nat) (listed : Array Bool) (a : Act) (w : World),
      (∀ j oj,ops[j]? = some oj → j ≠ i → listed.getD j true = false → (∀ e ∈ oj.after,Region.binds md e = true → e.on ≠ i) → oi.apart ops oj = true) →
      i ∈ Region.ready md ops listed → Yields P ops oi v a →
      wpAnyLast P md ops Q S ds fuel (listed.setIfInBounds i true) (a.put oi.dst v) w → wpAnyLast P md ops Q S ds (fuel + 1) listed a w:=by
  intro fuel
  induction fuel with
  | zero =>
    intro listed a w _ hr hy H
    refine ⟨fun h=>(by rw [h] at hr;cases hr),fun j hj=>?_⟩
    by_cases hji : j = i
    · subst hji;exact (hy.yieldsIf (S:=fun _=>True)).wpOp hi trivial ⟨fun _ h=>h,H⟩
    · have:=ready_mono hj hji
      rw [H.1] at this
      cases this
  | succ fuel ih =>
    intro listed a w hfree hr hy H
    refine ⟨fun h=>(by rw [h] at hr;cases hr),fun j hj=>?_⟩
    by_cases hji : j = i
    · subst hji;exact (hy.yieldsIf (S:=fun _=>True)).wpOp hi trivial ⟨fun _ h=>h,H⟩
    · have h1:=H.2 j (ready_mono hj hji)
      obtain ⟨hjun,oj,hoj,hall⟩:=mem_ready.1 hj
      have hiun:=(mem_ready.1 hr).1
      have hnot : ∀ e ∈ oj.after,Region.binds md e = true → e.on ≠ i:=fun e he hb heq=>by
        have h1:=hall e he hb
        rw [heq] at h1
        rcases Nat.lt_or_ge i listed.size with h' | h'
        · simp [h'] at hiun h1;rw [hiun] at h1;cases h1
        · simp [Array.getElem?_eq_none h'] at h1
      have h2:=wpOp_put hoj (hfree j oj hoj hji hjun hnot) (fun cs b=>hsel i oi cs b hi) (fun cs b=>hsel j oj cs b hoj) hQ hy h1
      have hfree' : ∀ k ok,ops[k]? = some ok → k ≠ i → (listed.setIfInBounds j true).getD k true = false →
          (∀ e ∈ ok.after,Region.binds md e = true → e.on ≠ i) → oi.apart ops ok = true:=fun k ok hk hki hun hno=>by
        refine hfree k ok hk hki ?_ hno
        by_cases hjk : j = k
        · subst hjk;exact hjun
        · rw [getD_set_ne true hjk] at hun;exact hun
      refine wpOp_mono (fun a' w' h3=>⟨h3.2.1,ih (listed.setIfInBounds j true) a' w' hfree' (ready_mono hr (Ne.symm hji)) h3.1 ?_⟩) h2
      rw [Array.setIfInBounds_comm _ _ hji]
      exact h3.2.2
theorem wpAnyLast_take {i : Nat} {oi : Oper} {v : Value} {fuel : Nat} {listed : Array Bool} {a : Act} {w : World} (hi : ops[i]? = some oi)
    (hs : Region.noSelect ops = true) (hf : Region.free md ops listed i = true) (hr : (Region.ready md ops listed).contains i = true)
    (hc : Region.closedB md ops listed = true) (hl : Region.lastB md ops listed ds i = true)
    (hQ : ∀ c a w,Q (.panic c) (a.put oi.dst v) w → Q (.panic c) a w) (hy : YieldsIf P ops S oi v a) (hS : S w)
    (h : wpAnyLast P md ops Q S ds fuel (listed.setIfInBounds i true) (a.put oi.dst v) w) : wpAnyLast P md ops Q S ds (fuel + 1) listed a w :=
  wpAnyLast_first hi (Region.noSelect_spec hs) hQ ops.size fuel listed a w (Region.free_spec hi hf) (Region.closedB_spec hc)
    (fun d hm hun=>by have:=List.all_eq_true.1 hl d hm;rw [hun] at this;simpa using this) (by simpa using hr) hy hS h
theorem wpAnyLast_all {rs : List Nat} {fuel : Nat} {listed : Array Bool} {a : Act} {w : World} (hr : Region.ready md ops listed = rs) (hne : rs ≠ [])
    (h : ∀ i ∈ rs,wpOp P ops Q i (fun a' w'=>(i ∉ ds → S w → S w') ∧ wpAnyLast P md ops Q S ds fuel (listed.setIfInBounds i true) a' w') a w) : wpAnyLast P md ops Q S ds (fuel + 1) listed a w :=
  ⟨fun h0=>absurd (hr ▸ h0) hne,hr ▸ h⟩
theorem wpAnyLast_done {listed : Array Bool} {a : Act} {w : World} (hr : Region.ready md ops listed = []) (h : Q .normal a w) :
    ∀ fuel,wpAnyLast P md ops Q S ds fuel listed a w
  | 0=>⟨hr,h⟩
  | _ + 1=>⟨fun _=>h,by rw [hr];simp⟩
theorem wp_region_last {id : Nat} {a : Act} {w : World} (hm : P.follows .mixedOrders = true)
    (h : wpAnyLast P .any ops Q S ds ops.size (Array.replicate ops.size false) a { w with drawn:=w.drawn + 1 }) : (Code.region id ops true).wp P Q a w :=
  wp_region_any hm (wpAny_of_last _ _ _ _ h)
end
section
variable {P : Program} {ops : Array Oper} {Q : Exit → Act → World → Prop} {md : Region.Mode} {S : World → Prop} {ds : List Nat}
def AllReadyL (P : Program) (md : Region.Mode) (ops : Array Oper) (Q : Exit → Act → World → Prop) (S : World → Prop) (ds : List Nat) (fuel : Nat) (listed : Array Bool) (a : Act) (w : World) (rs : List Nat) : Prop :=
  ∀ i ∈ rs,wpOp P ops Q i (fun a' w'=>(i ∉ ds → S w → S w') ∧ wpAnyLast P md ops Q S ds fuel (listed.setIfInBounds i true) a' w') a w
theorem AllReadyL.nil {fuel : Nat} {listed : Array Bool} {a : Act} {w : World} : AllReadyL P md ops Q S ds fuel listed a w []:=fun _ h=>by cases h
theorem AllReadyL.cons {fuel : Nat} {listed : Array Bool} {a : Act} {w : World} {i : Nat} {o : Oper} {rs : List Nat} (ho : ops[i]? = some o) (hd : i ∉ ds)
    (h : ∀ K' : Act → World → Prop,Shut (∀ a w,S w → (S w → wpAnyLast P md ops Q S ds fuel (listed.setIfInBounds i true) a w) → K' a w) → if Region.wanted o (yielded ops a.tmps) = true then Oper.wp P o a w K' Q else K' (a.put o.dst undef) w)
    (hs : AllReadyL P md ops Q S ds fuel listed a w rs) : AllReadyL P md ops Q S ds fuel listed a w (i :: rs):=fun j hj=>by
  rcases List.mem_cons.1 hj with rfl | hj
  · exact wpOp_step ho (fun K' hK=>h K' (fun a w hS hW=>hK a w ⟨fun _ _=>hS,hW hS⟩))
  · exact hs j hj
theorem AllReadyL.cons_last {fuel : Nat} {listed : Array Bool} {a : Act} {w : World} {i : Nat} {o : Oper} {rs : List Nat} (ho : ops[i]? = some o) (hd : i ∈ ds)
    (h : ∀ K' : Act → World → Prop,Shut (∀ a w,wpAnyLast P md ops Q S ds fuel (listed.setIfInBounds i true) a w → K' a w) → if Region.wanted o (yielded ops a.tmps) = true then Oper.wp P o a w K' Q else K' (a.put o.dst undef) w)
    (hs : AllReadyL P md ops Q S ds fuel listed a w rs) : AllReadyL P md ops Q S ds fuel listed a w (i :: rs):=fun j hj=>by
  rcases List.mem_cons.1 hj with rfl | hj
  · exact wpOp_step ho (fun K' hK=>h K' (fun a w hW=>hK a w ⟨fun hn=>absurd hd hn,hW⟩))
  · exact hs j hj
theorem wpAnyLast_ready {rs : List Nat} {fuel : Nat} {listed : Array Bool} {a : Act} {w : World} (hr : Region.ready md ops listed = rs) (hne : rs ≠ [])
    (h : AllReadyL P md ops Q S ds fuel listed a w rs) : wpAnyLast P md ops Q S ds (fuel + 1) listed a w:=wpAnyLast_all hr hne h
theorem start_ {id n : Nat} {a : Act} {w : World} (l : Array Bool) (hm : P.follows .mixedOrders = true) (hn : ops.size = n) (hl : Array.replicate n false = l) (hS : S w.drew)
    (h : S w.drew → wpAnyLast P .any ops Q S ds n l a w.drew) : (Code.region id ops true).wp P Q a w:=by
  subst hn
  subst hl
  exact wp_region_last hm (h hS)
def takeB (md : Region.Mode) (ops : Array Oper) (ds : List Nat) (l l' : Array Bool) (i : Nat) : Bool :=
  Region.noSelect ops && Region.free md ops l i && (Region.ready md ops l).contains i && Region.closedB md ops l && Region.lastB md ops l ds i && (l.setIfInBounds i true == l')
theorem take_ {i : Nat} {N : Option Tmp} {oi : Oper} {v : Value} {fuel : Nat} {l : Array Bool} {a : Act} {w : World} (l' : Array Bool) (hi : ops[i]? = some oi) (hN : oi.dst = N) (hc : takeB md ops ds l l' i = true)
    (hQ : ∀ c a w,Q (.panic c) (a.put oi.dst v) w → Q (.panic c) a w) (hy : YieldsIf P ops S oi v a) (hS : S w) {a' : Act} (ha : a.put N v = a')
    (h : wpAnyLast P md ops Q S ds fuel l' a' w) : wpAnyLast P md ops Q S ds (fuel + 1) l a w:=by
  subst ha
  subst hN
  simp only [takeB,Bool.and_eq_true,beq_iff_eq] at hc
  obtain ⟨⟨⟨⟨⟨h1,h2⟩,h3⟩,h4⟩,h5⟩,h6⟩:=hc
  subst h6
  exact wpAnyLast_take hi h1 h2 h3 h4 h5 hQ hy hS h
def anyB (md : Region.Mode) (ops : Array Oper) (l l' : Array Bool) (i : Nat) : Bool :=
  Region.noSelect ops && Region.free md ops l i && (Region.ready md ops l).contains i && (l.setIfInBounds i true == l')
theorem pure_ {i : Nat} {N : Option Tmp} {oi : Oper} {v : Value} {fuel : Nat} {l : Array Bool} {a : Act} {w : World} (l' : Array Bool) (hi : ops[i]? = some oi) (hN : oi.dst = N) (hc : anyB md ops l l' i = true)
    (hQ : ∀ c a w,Q (.panic c) (a.put oi.dst v) w → Q (.panic c) a w) (hy : Yields P ops oi v a) {a' : Act} (ha : a.put N v = a')
    (h : wpAnyLast P md ops Q S ds fuel l' a' w) : wpAnyLast P md ops Q S ds (fuel + 1) l a w:=by
  subst ha
  subst hN
  simp only [anyB,Bool.and_eq_true,beq_iff_eq] at hc
  obtain ⟨⟨⟨h1,h2⟩,h3⟩,h6⟩:=hc
  subst h6
  exact wpAnyLast_any hi (Region.noSelect_spec h1) hQ fuel l a w (Region.free_spec hi h2) (by simpa using h3) hy h
def readyB (md : Region.Mode) (ops : Array Oper) (l l' : Array Bool) (i : Nat) : Bool:=(Region.ready md ops l == [i]) && (l.setIfInBounds i true == l')
theorem one_ {i : Nat} {N : Option Tmp} {oi : Oper} {fuel : Nat} {l : Array Bool} {a : Act} {w : World} (l' : Array Bool) (hi : ops[i]? = some oi) (hN : oi.dst = N) (hc : readyB md ops l l' i = true) (hd : i ∉ ds)
    (h : ∀ K : Act → World → Prop,Shut (∀ a' w',S w' → (S w' → wpAnyLast P md ops Q S ds fuel l' a' w') → K a' w') → if Region.wanted oi (yielded ops a.tmps) = true then Oper.wp P oi a w K Q else K (a.put N undef) w) :
    wpAnyLast P md ops Q S ds (fuel + 1) l a w:=by
  subst hN
  simp only [readyB,Bool.and_eq_true,beq_iff_eq] at hc
  obtain ⟨h1,h2⟩:=hc
  subst h2
  exact wpAnyLast_ready h1 (by simp) (AllReadyL.cons hi hd (fun K hK=>h K hK) AllReadyL.nil)
theorem last_ {i : Nat} {N : Option Tmp} {oi : Oper} {fuel : Nat} {l : Array Bool} {a : Act} {w : World} (l' : Array Bool) (hi : ops[i]? = some oi) (hN : oi.dst = N) (hc : readyB md ops l l' i = true) (hd : i ∈ ds)
    (h : ∀ K : Act → World → Prop,Shut (∀ a' w',wpAnyLast P md ops Q S ds fuel l' a' w' → K a' w') → if Region.wanted oi (yielded ops a.tmps) = true then Oper.wp P oi a w K Q else K (a.put N undef) w) :
    wpAnyLast P md ops Q S ds (fuel + 1) l a w:=by
  subst hN
  simp only [readyB,Bool.and_eq_true,beq_iff_eq] at hc
  obtain ⟨h1,h2⟩:=hc
  subst h2
  exact wpAnyLast_ready h1 (by simp) (AllReadyL.cons_last hi hd (fun K hK=>h K hK) AllReadyL.nil)
theorem done_ {l : Array Bool} {a : Act} {w : World} {n : Nat} (hr : (Region.ready md ops l == []) = true) (h : Q .normal a w) : wpAnyLast P md ops Q S ds n l a w:=wpAnyLast_done (by simpa using hr) h n
theorem two_ {i j : Nat} {Ni Nj : Option Tmp} {oi oj : Oper} {fuel : Nat} {l : Array Bool} {a : Act} {w : World} (li lj : Array Bool) (hi : ops[i]? = some oi) (hj : ops[j]? = some oj) (hNi : oi.dst = Ni) (hNj : oj.dst = Nj)
    (hc : (Region.ready md ops l == [i,j] && l.setIfInBounds i true == li && l.setIfInBounds j true == lj) = true) (hdi : i ∉ ds) (hdj : j ∉ ds)
    (h1 : ∀ K : Act → World → Prop,Shut (∀ a' w',S w' → (S w' → wpAnyLast P md ops Q S ds fuel li a' w') → K a' w') → if Region.wanted oi (yielded ops a.tmps) = true then Oper.wp P oi a w K Q else K (a.put Ni undef) w)
    (h2 : ∀ K : Act → World → Prop,Shut (∀ a' w',S w' → (S w' → wpAnyLast P md ops Q S ds fuel lj a' w') → K a' w') → if Region.wanted oj (yielded ops a.tmps) = true then Oper.wp P oj a w K Q else K (a.put Nj undef) w) :
    wpAnyLast P md ops Q S ds (fuel + 1) l a w:=by
  subst hNi
  subst hNj
  simp only [Bool.and_eq_true,beq_iff_eq] at hc
  obtain ⟨⟨h3,h4⟩,h5⟩:=hc
  subst h4
  subst h5
  exact wpAnyLast_ready h3 (by simp) (AllReadyL.cons hi hdi (fun K hK=>h1 K hK) (AllReadyL.cons hj hdj (fun K hK=>h2 K hK) AllReadyL.nil))
def putAll : Act → List (Tmp × Value) → Act
  | a,[]=>a
  | a,(n,v) :: r=>putAll (a.put (some n) v) r
theorem join_ {σ : Type} {fuel : Nat} {l : Array Bool} {a : Act} {w : World} (fuel' : Nat) (l' : Array Bool) (ns : σ → List (Tmp × Value)) (F : σ → World → Prop)
    (hcont : ∀ s w',F s w' → wpAnyLast P md ops Q S ds fuel' l' (putAll a (ns s)) w')
    (h : (∀ s w',F s w' → wpAnyLast P md ops Q S ds fuel' l' (putAll a (ns s)) w') → wpAnyLast P md ops Q S ds fuel l a w) : wpAnyLast P md ops Q S ds fuel l a w:=h hcont
theorem norm_ {fuel : Nat} {l : Array Bool} {a a' : Act} {w : World} (ha : a = a') (h : wpAnyLast P md ops Q S ds fuel l a' w) : wpAnyLast P md ops Q S ds fuel l a w:=by
  subst ha
  exact h
theorem call_ {oi : Oper} {N : Option Tmp} {a : Act} {w : World} {K : Act → World → Prop} (f : FuncId) (args : Array Value) (hw : Region.wanted oi (yielded ops a.tmps) = true) (hN : oi.dst = N) (hrun : (execOp a.eval oi).run P w = .ok (.enter f args) w)
    (h : Calls P f args w fun e w'=>∃ v,e = .returned v ∧ K (a.put N v) w') : if Region.wanted oi (yielded ops a.tmps) = true then Oper.wp P oi a w K Q else K (a.put N undef) w:=by
  rw [if_pos hw]
  subst hN
  unfold Oper.wp
  rw [hrun,Oper.upon_enter]
  refine h.mono fun e w'' hh=>?_
  obtain ⟨v,rfl,hk⟩:=hh
  exact hk
theorem enters_ {f : FuncId} {fn : Func} (hf : P.funcs[f]? = some fn) (hname : (fn.name == "runtime.NumGoroutine") = false) (hb : fn.body.isSome = true) (args : Array Value) (w : World) : (callFunc f args).run P w = .ok (.enter f args) w:=by
  have h1 : fn.name ≠ "runtime.NumGoroutine" := by simpa using hname
  obtain ⟨c,hc⟩:=Option.isSome_iff_exists.1 hb
  simp [callFunc,hf,h1,hc]
theorem goes_ {oi : Oper} {N : Option Tmp} {a : Act} {w : World} {K : Act → World → Prop} {f : FuncId} {fn : Func} {as_ : Array Operand} {ts : Array TypeId} (hf : P.funcs[f]? = some fn) (hname : (fn.name == "runtime.NumGoroutine") = false) (hb : fn.body.isSome = true) (args : Array Value)
    (hw : Region.wanted oi (yielded ops a.tmps) = true) (hN : oi.dst = N) (hop : oi.op = .call { callee:=.value (.func f),args:=as_,argTypes:=ts }) (hargs : as_.map a.eval = args)
    (h : Calls P f args w fun e w'=>∃ v,e = .returned v ∧ K (a.put N v) w') : if Region.wanted oi (yielded ops a.tmps) = true then Oper.wp P oi a w K Q else K (a.put N undef) w:=by
  refine call_ f args hw hN ?_ h
  have he:=enters_ hf hname hb args w
  unfold execOp
  simp [hop,resolve,Deferred.ofValue,invoke,Act.eval,hargs,he]
theorem goesL_ {rest : List Oper} {oi : Oper} {a : Act} {w : World} (N : Option Tmp) (hd : oi.dst = N) (hg : oi.guard = none) {f : FuncId} {fn : Func} {as_ : Array Operand} {ts : Array TypeId} (hf : P.funcs[f]? = some fn) (hname : (fn.name == "runtime.NumGoroutine") = false) (hb : fn.body.isSome = true) (args : Array Value)
    (hop : oi.op = .call { callee:=.value (.func f),args:=as_,argTypes:=ts }) (hargs : as_.map a.eval = args)
    (h : Calls P f args w fun e w'=>∃ v,e = .returned v ∧ wpList P ops Q rest (a.put N v) w') : wpList P ops Q (oi :: rest) a w:=by
  refine wpList_plain hg fun K hK=>?_
  have he:=enters_ hf hname hb args w
  have hrun : (execOp a.eval oi).run P w = .ok (.enter f args) w:=by
    unfold execOp
    simp [hop,resolve,Deferred.ofValue,invoke,Act.eval,hargs,he]
  unfold Oper.wp
  rw [hrun,Oper.upon_enter]
  refine h.mono fun e w'' hh=>?_
  obtain ⟨v,rfl,hk⟩:=hh
  subst hd
  exact hK _ _ hk
theorem value_ {oi : Oper} {N : Option Tmp} {a : Act} {w w1 : World} {v : Value} {K : Act → World → Prop} (hw : Region.wanted oi (yielded ops a.tmps) = true) (hN : oi.dst = N) (hrun : (execOp a.eval oi).run P w = .ok (.value v) w1)
    (h : K (a.put N v) w1) : if Region.wanted oi (yielded ops a.tmps) = true then Oper.wp P oi a w K Q else K (a.put N undef) w:=by
  rw [if_pos hw]
  subst hN
  unfold Oper.wp
  rw [hrun]
  exact h
theorem skip_ {oi : Oper} {a : Act} {w w1 : World} {K : Act → World → Prop} (hw : Region.wanted oi (yielded ops a.tmps) = true) (hN : oi.dst = none) (hrun : (execOp a.eval oi).run P w = .ok .skip w1)
    (h : K a w1) : if Region.wanted oi (yielded ops a.tmps) = true then Oper.wp P oi a w K Q else K (a.put none undef) w:=by
  rw [if_pos hw]
  unfold Oper.wp
  rw [hrun]
  show K (a.put oi.dst undef) w1
  rw [hN]
  exact h
theorem i64_w (n : Int) : IntKind.i64.wrap n = Go.RowKit.wrap64 n:=by unfold Go.RowKit.wrap64;exact IntKind.wrap_i64 n
theorem i32_w (n : Int) : IntKind.i32.wrap n = Go.RowKit.wrap32 n:=by unfold Go.RowKit.wrap32;exact IntKind.wrap_i32 n
end
end Go.Proofs.YtpfbcepgmigeiaaGreatDoorW.PrintLast
end
section
namespace Go.Proofs.YtpfbcepgmigeiaaGreatDoorW.PrintWords
open Go.RowKit
namespace Kd
def tag {α : Type} (f : Nat → Nat) (d : Kd α) : Kd (α × Nat) where
  sz:=d.sz
  E:=d.E
  K:=fun w x cs=>d.K w x.1 cs
  M:=fun w base ok x cs=>d.M w base (fun k=>ok k ∧ f k = x.2) x.1 cs
  K_len:=fun h=>d.K_len h
  K_one:=fun h=>d.K_one h
  K_below:=fun hb h=>d.K_below hb h
  K_of_M:=fun h=>d.K_of_M h
  M_mono:=fun hok h=>d.M_mono (fun k hk=>⟨hok k hk.1,hk.2⟩) h
  M_bound:=fun h=>d.M_mono (fun _ hk=>⟨⟨hk.1.1,hk.2⟩,hk.1.2⟩) (d.M_bound h)
  M_move:=fun hm h=>d.M_move (fun k hk=>hm k hk.1) h
  M_lower:=fun hb h=>d.M_lower hb h
def raw (sz : Nat) : Kd (List Value) where
  sz:=sz
  E:=[]
  K:=fun _ x cs=>cs = x ∧ cs.length = sz ∧ ∀ u ∈ cs,u.oneCell' = true
  M:=fun _ _ _ x cs=>cs = x ∧ cs.length = sz ∧ ∀ u ∈ cs,u.oneCell' = true
  K_len:=fun h=>h.2.1
  K_one:=fun h=>h.2.2
  K_below:=fun _ h=>h
  K_of_M:=fun h=>h
  M_mono:=fun _ h=>h
  M_bound:=fun h=>h
  M_move:=fun _ h=>h
  M_lower:=fun _ h=>h
def S {α : Type} (d : Kd α) (e : Nat) (w : World) (base : Nat) (ok : Nat → Prop) (v : Value) (xs : List α) : Prop:=∃ f,(tag f d).R e w base ok v xs.zipIdx
section
variable {α β : Type} {d : Kd α} {d' : Kd β} {e e' : Nat} {w w1 W : World} {base b : Nat} {ok ok' okv oku : Nat → Prop} {u v : Value} {xs : List α} {ys : List β}
theorem zip_at {xs : List α} {j : Nat} {p : α} (h : xs[j]? = some p) : xs.zipIdx[j]? = some (p,j):=by rw [List.getElem?_zipIdx,h,Nat.zero_add];rfl
theorem S_R (h : S d e w base ok v xs) : d.R e w base ok v xs:=by
  obtain ⟨f,h0,inner,ho,hr⟩:=h
  rw [List.length_zipIdx] at ho
  exact ⟨h0,inner,ho,by have:=hr.1;rw [List.length_zipIdx] at this;exact this,fun j p hj=>d.M_mono (fun _ hk=>hk.1) (hr.2 j (p,j) (zip_at hj))⟩
theorem R_tight (hE : d.E = []) (h : d.R e w base ok v xs) : d.R e w base (fun k=>some k = v.ownBlock) v xs:=by
  obtain ⟨h0,inner,ho,hr⟩:=h
  refine ⟨fun k hk=>hk.symm,inner,ho,hr.imp_ (fun p c hp=>d.M_mono (fun k hk=>?_) (d.M_bound hp))⟩
  obtain ⟨_,_,_,q,hq,_⟩:=hk
  rw [hE] at hq
  cases hq
theorem S_nil (d : Kd α) (e : Nat) (w : World) (base : Nat) (ok : Nat → Prop) : S d e w base ok (.slice none 0 0) []:=⟨fun _=>0,R_nil _ _ _ _ _⟩
theorem S_mono (h : S d e w base ok v xs) (hok : ∀ k,ok k → ok' k) : S d e w base ok' v xs:=by
  obtain ⟨f,h⟩:=h
  exact ⟨f,R_mono h hok⟩
theorem S_bound (h : S d e w base ok v xs) : S d e w base (fun k=>ok k ∧ base ≤ k ∧ k < w.heap.size ∧ ∃ q,q ∈ e :: d.E ∧ ∃ cells,w.heap[k]? = some (.cells cells q (0,0))) v xs:=by
  obtain ⟨f,h⟩:=h
  exact ⟨f,R_bound h⟩
theorem S_move (h : S d e w base ok v xs) (hm : ∀ k,ok k → w1.heap[k]? = w.heap[k]?) : S d e w1 base ok v xs:=by
  obtain ⟨f,h⟩:=h
  exact ⟨f,R_move h hm⟩
theorem S_lower {base' : Nat} (h : S d e w base ok v xs) (hb : base' ≤ base) : S d e w base' ok v xs:=by
  obtain ⟨f,h⟩:=h
  exact ⟨f,R_lower h hb⟩
theorem S_step (h : S d e w base ok v xs) (hm : ∀ k,ok k → k < w.heap.size → w1.heap[k]? = w.heap[k]?) : S d e w1 base ok v xs :=
  S_mono (S_move (S_bound h) (fun k hk=>hm k hk.1 hk.2.2.1)) (fun _ hk=>hk.1)
theorem S_below (h : S d e w base ok v xs) (hb : Below w.heap.size w w1) : S d e w1 base ok v xs:=S_step h (fun k _ hk=>hb.block k hk)
theorem S_lt (h : S d e w base ok v xs) : ∀ k,v.ownBlock = some k → k < w.heap.size:=R_lt (S_R h)
theorem S_over' (h : S d e W base ok u xs) (hty : ∀ k,v.ownBlock = some k → ∃ cells,W.heap[k]? = some (.cells cells e' (0,0))) (ht : ∀ q,q ∈ e :: d.E → q ≠ e') (hg : W.grownBy w1 v.ownBlock) : S d e w1 base ok u xs:=by
  obtain ⟨f,h⟩:=h
  exact ⟨f,R_over' h hty ht hg⟩
theorem R_tag {f f' : Nat → Nat} {zs : List (α × Nat)} (h : (tag f d).R e w base ok v zs) (hf : ∀ k,ok k → k < w.heap.size → f' k = f k) : (tag f' d).R e w base ok v zs:=by
  obtain ⟨h0,inner,ho,hr⟩:=R_bound h
  exact ⟨fun k hk=>(h0 k hk).1,inner,ho,hr.1,fun j p hj=>d.M_mono (fun k hk=>⟨⟨hk.1.1.1,hk.1.2⟩,(hf k hk.1.1.1 hk.1.1.2.2.1).trans hk.2⟩) (hr.2 j p hj)⟩
end
section
variable {α β : Type} {d : Kd α} {d' : Kd β} {e e' g : Nat} {w w1 W : World} {base b : Nat} {ok ok' okv oku : Nat → Prop} {u v : Value} {xs : List α} {ys : List β}
theorem S_ne (h : S d e w base ok v xs) {t : Nat} {cells : Array Value} (hb : w.heap[g]? = some (.cells cells t (0,0))) (ht : e ≠ t) : some g ≠ v.ownBlock:=R_ne (S_R h) hb ht
theorem S_slice (h : S d e w base ok v xs) : ∃ A c,v = .slice A xs.length c:=R_slice (S_R h)
theorem S_reads' {A : Option Addr} {n c : Nat} (h : S d e w base ok (.slice A n c) xs) : n = xs.length ∧ n ≤ c ∧ d.C w A xs.length xs:=R_reads' (S_R h)
theorem zip_snoc (xs : List α) (p : α) : (xs ++ [p]).zipIdx = xs.zipIdx ++ [(p,xs.length)]:=by rw [List.zipIdx_append];simp
end
section
open Classical in
theorem S_tag {α : Type} {d : Kd α} {e base : Nat} {okv : Nat → Prop} {w : World} {v : Value} {xs : List α} (h : S d e w base okv v xs) (m : Nat) (okp : Nat → Prop) (hap : ∀ k,okp k → ¬ okv k) : ∃ f,(∀ k,okp k → f k = m) ∧ (tag f d).R e w base okv v xs.zipIdx:=by
  obtain ⟨f,h⟩:=h
  exact ⟨fun k=>if okp k then m else f k,fun k hk=>if_pos hk,R_tag h (fun k hk _=>if_neg (fun h2=>hap k h2 hk))⟩
variable {P : Program} {ops : Array Oper} {rest : List Oper} {o : Oper} {a : Act} {Q : Exit → Act → World → Prop} {Kc : Act → World → Prop} {α : Type}
theorem S_append (d : Kd α) {w0 W : World} (base : Nat) (hgd : o.guard = none) (s x : Operand) (t e : TypeId) (z : Value) (bytes : Nat)
    (ho : o.op = .call { callee:=.builtin .append,args:=#[s,x],argTypes:=#[t,t] })
    (ht : P.underlying t = some (.slice e)) (hinfo : (P.info? e).map (fun i=>(i.zero,i.size,i.bytes)) = some (some z,d.sz,bytes)) (hz : z.cells.size = d.sz) (hs0 : 0 < d.sz) (hb0 : 0 < bytes)
    (v : Value) (xs : List α) (p : α) (cs : List Value) (ok okp : Nat → Prop) (hs : a.eval s = v) (hx : a.eval x = .slice (some ⟨W.heap.size,0,none⟩) 1 1) (hp : d.M W base okp p cs) (hokp : ∀ k,okp k → ok k ∧ some k ≠ v.ownBlock) (hfresh : ∀ k,W.heap.size ≤ k → ok k)
    (HO : S d e W base (fun k=>ok k ∧ ¬ okp k) v xs) (HB : Below base w0 W) (hbase : base ≤ W.heap.size) (hl : (xs.length + 1) * bytes ≤ 140737488355328)
    (h : ∀ v1 w1,S d e w1 base ok v1 (xs ++ [p]) → Below base w0 w1 → W.grownBy w1 v.ownBlock → (v1.ownBlock = v.ownBlock ∨ ∃ b,v1.ownBlock = some b ∧ W.heap.size ≤ b) → wpList P ops Q rest (a.put o.dst v1) w1) :
    wpList P ops Q (o :: rest) a (W.alloc (.cells cs.toArray e)):=by
  obtain ⟨f,hf,hR⟩:=S_tag HO xs.length okp (fun _ hk h2=>h2.2 hk)
  refine R_append (tag f d) base hgd s x t e z bytes ho ht hinfo hz hs0 hb0 v xs.zipIdx (p,xs.length) cs ok okp hs hx (d.M_mono (fun k hk=>⟨hk,hf k hk⟩) hp) hokp hfresh (R_mono hR (fun _ hk=>hk.1)) HB hbase (by rw [List.length_zipIdx];exact hl) ?_
  intro v1 w1 hr
  rw [← zip_snoc] at hr
  exact h v1 w1 ⟨f,hr⟩
end
def gap {α : Type} (f : Nat → Nat) (d : Kd α) (i : Nat) (c : List Value) : Kd (α × Nat) where
  sz:=d.sz
  E:=d.E
  K:=fun w x cs=>(x.2 = i → cs = c ∧ cs.length = d.sz ∧ ∀ u ∈ cs,u.oneCell' = true) ∧ (x.2 ≠ i → d.K w x.1 cs)
  M:=fun w base ok x cs=>(x.2 = i → cs = c ∧ cs.length = d.sz ∧ ∀ u ∈ cs,u.oneCell' = true) ∧ (x.2 ≠ i → d.M w base (fun k=>ok k ∧ f k = x.2) x.1 cs)
  K_len:=fun {w x cs} h=>by
    by_cases hx : x.2 = i
    · exact (h.1 hx).2.1
    · exact d.K_len (h.2 hx)
  K_one:=fun {w x cs} h=>by
    by_cases hx : x.2 = i
    · exact (h.1 hx).2.2
    · exact d.K_one (h.2 hx)
  K_below:=fun hb h=>⟨h.1,fun hx=>d.K_below hb (h.2 hx)⟩
  K_of_M:=fun h=>⟨h.1,fun hx=>d.K_of_M (h.2 hx)⟩
  M_mono:=fun hok h=>⟨h.1,fun hx=>d.M_mono (fun k hk=>⟨hok k hk.1,hk.2⟩) (h.2 hx)⟩
  M_bound:=fun h=>⟨h.1,fun hx=>d.M_mono (fun _ hk=>⟨⟨hk.1.1,hk.2⟩,hk.1.2⟩) (d.M_bound (h.2 hx))⟩
  M_move:=fun hm h=>⟨h.1,fun hx=>d.M_move (fun k hk=>hm k hk.1) (h.2 hx)⟩
  M_lower:=fun hb h=>⟨h.1,fun hx=>d.M_lower hb (h.2 hx)⟩
def H {α : Type} (d : Kd α) (e : Nat) (w : World) (base : Nat) (ok : Nat → Prop) (v : Value) (xs : List α) (i : Int) (oki : Nat → Prop) (c : List Value) : Prop :=
  (∀ k,oki k → ok k) ∧ ∃ f,(gap f d i.toNat c).R e w base (fun k=>ok k ∧ ¬ oki k) v xs.zipIdx
section
variable {α β : Type} {d : Kd α} {e e' g n cap : Nat} {w w1 W : World} {base : Nat} {ok ok' oki okp : Nat → Prop} {u v : Value} {xs : List α} {i : Int} {c : List Value}
end
section
variable {P : Program} {ops : Array Oper} {rest : List Oper} {o : Oper} {a : Act} {Q : Exit → Act → World → Prop} {α : Type}
end
end Kd
end Go.Proofs.YtpfbcepgmigeiaaGreatDoorW.PrintWords
end
section
namespace Go.Proofs.YtpfbcepgmigeiaaGreatDoorW.PrintWords
open Go.RowKit
namespace Kd
structure Heap {α : Type} (d : Kd α) : Prop where
  K : ∀ {w w1 : World} {x : α} {cs : List Value},(∀ k,k < w.heap.size → w1.heap[k]? = w.heap[k]?) → d.K w x cs → d.K w1 x cs
theorem cell_heap {w w1 : World} (hb : ∀ k,k < w.heap.size → w1.heap[k]? = w.heap[k]?) {a : Addr} {v : Value} (h : w.cell? a = some v) : w1.cell? a = some v:=by
  have:=hb a.block (World.block_lt_of_cell? w a h)
  simpa [World.cell?,this] using h
theorem Heap.C {α : Type} {d : Kd α} (hd : Heap d) {w w1 : World} {A : Option Addr} {n : Nat} {xs : List α} (hb : ∀ k,k < w.heap.size → w1.heap[k]? = w.heap[k]?) (h : d.C w A n xs) : d.C w1 A n xs :=
  ⟨h.1,h.2.1,fun hn=>by
    obtain ⟨ad,e,hc⟩:=h.2.2 hn
    refine ⟨ad,e,fun j p hj=>?_⟩
    obtain ⟨c,hs,hr,hcell⟩:=hc j p hj
    exact ⟨c,hs,hd.K hb hr,fun i u hu=>cell_heap hb (hcell i u hu)⟩⟩
section
variable {α : Type} {d : Kd α} {e base g n c : Nat} {ok : Nat → Prop} {w w0 W : World} {A : Option Addr} {xs : List α}
end
end Kd
end Go.Proofs.YtpfbcepgmigeiaaGreatDoorW.PrintWords
end
section
namespace Go.Proofs.YtpfbcepgmigeiaaGreatDoorW.PrintWords
open Go.RowKit
def Kept (w W : World) (S : Nat → Prop) : Prop:=w.heap.size ≤ W.heap.size ∧ ∀ i,i < w.heap.size → ¬ S i → W.heap[i]? = w.heap[i]?
section
variable {w W W2 : World} {S S2 S' : Nat → Prop}
theorem Kept.refl (w : World) (S : Nat → Prop) : Kept w w S:=⟨Nat.le_refl _,fun _ _ _=>rfl⟩
theorem Kept.of_below (h : Below w.heap.size w W) (S : Nat → Prop) : Kept w W S:=⟨h.size,fun i hi _=>h.block i hi⟩
theorem Kept.then_ (h : Kept w W S) (k : Kept W W2 S2) (hs : ∀ k,S2 k → S k ∨ w.heap.size ≤ k) : Kept w W2 S :=
  ⟨Nat.le_trans h.1 k.1,fun i hi hn=>(k.2 i (Nat.lt_of_lt_of_le hi h.1) (fun h2=>(hs i h2).elim hn (fun h3=>by omega))).trans (h.2 i hi hn)⟩
theorem Kept.below (h : Kept w W S) (hb : Below W.heap.size W W2) : Kept w W2 S:=h.then_ (Kept.of_below hb (fun _=>False)) (fun _ hk=>hk.elim)
theorem Kept.alloc (h : Kept w W S) (o : Obj) : Kept w (W.alloc o) S:=h.below (below_alloc (Below.refl _ _) o)
theorem Kept.drew (h : Kept w W S) : Kept w W.drew S:=h
theorem Kept.drewN (h : Kept w W S) (m : Nat) : Kept w (W.drewN m) S:=h
theorem Kept.setCell (h : Kept w W S) {p : Addr} (hp : S p.block ∨ w.heap.size ≤ p.block) (u : Value) : Kept w (W.setCell p u) S :=
  h.then_ (S2:=fun k=>k = p.block) ⟨by simp [World.setCell],fun i _ hn=>Below.heap_setCell W p u i hn⟩ (fun k hk=>by rw [hk];exact hp)
end
namespace Kd
section
variable {α : Type} {d : Kd α} {e base n c : Nat} {ok oki S S2 : Nat → Prop} {w w0 W W1 W2 : World} {v : Value} {A : Option Addr} {xs : List α} {i : Int} {cs : List Value}
end
end Kd
end Go.Proofs.YtpfbcepgmigeiaaGreatDoorW.PrintWords
end
section
namespace Go.Proofs.YtpfbcepgmigeiaaGreatDoorW.PrintWords
open Go.RowKit
def Foot (P : World → Prop) (W : World) (ok : Nat → Prop) : Prop:=∀ W' : World,(∀ k,ok k → k < W.heap.size → W'.heap[k]? = W.heap[k]?) → P W'
theorem heap_lt {W W1 : World} {k : Nat} (h : W1.heap[k]? = W.heap[k]?) (hlt : k < W.heap.size) : k < W1.heap.size:=by
  rw [Array.getElem?_eq_getElem hlt] at h
  exact (Array.getElem?_eq_some_iff.1 h).1
namespace Foot
variable {P Q : World → Prop} {W W1 : World} {ok ok' : Nat → Prop}
theorem mono (h : Foot P W ok) (hok : ∀ k,ok k → ok' k) : Foot P W ok':=fun W' hW=>h W' (fun k hk hlt=>hW k (hok k hk) hlt)
theorem step (h : Foot P W ok) (hm : ∀ k,ok k → k < W.heap.size → W1.heap[k]? = W.heap[k]?) : Foot P W1 ok:=fun W' hW=>h W' (fun k hk hlt=>(hW k hk (heap_lt (hm k hk hlt) hlt)).trans (hm k hk hlt))
theorem imp (h : Foot P W ok) (hi : ∀ W',P W' → Q W') : Foot Q W ok:=fun W' hW=>hi W' (h W' hW)
end Foot
namespace Kd
def F {α : Type} (d : Kd α) (W : World) (ok : Nat → Prop) (A : Option Addr) (n : Nat) (xs : List α) : Prop:=Foot (fun W=>d.C W A n xs) W ok
def FK {α : Type} (d : Kd α) (W : World) (ok : Nat → Prop) (x : α) (c : List Value) : Prop:=Foot (fun W=>d.K W x c) W ok
section
variable {α β : Type} {d : Kd α} {e base n n' cc g N : Nat} {ok ok' okp S : Nat → Prop} {w w0 w1 W W1 : World} {A A' : Option Addr} {u v v1 : Value} {xs : List α} {xs' : List β} {d' : Kd β} {x : α} {c : List Value}
theorem F_nil (d : Kd α) (W : World) (ok : Nat → Prop) : F d W ok none ([] : List α).length []:=fun W' _=>C_nil d W'
theorem FK_of_M (h : d.M W base ok x c) : FK d W ok x c:=fun _ hW=>d.K_of_M (M_step h hW)
end
end Kd
end Go.Proofs.YtpfbcepgmigeiaaGreatDoorW.PrintWords
end
section
namespace Go.Proofs.YtpfbcepgmigeiaaGreatDoorW.PrintWords
open Go.RowKit
namespace Kd
def chunks (sz : Nat) (n : Nat) (inner : List Value) : List (List Value):=(List.range n).map fun j=>(inner.drop (j * sz)).take sz
theorem chunks_length (sz n : Nat) (inner : List Value) : (chunks sz n inner).length = n:=by simp [chunks]
theorem chunks_at {sz n : Nat} {inner : List Value} {j : Nat} (hj : j < n) : (chunks sz n inner)[j]? = some ((inner.drop (j * sz)).take sz):=by simp [chunks,hj]
theorem chunks_get {sz n : Nat} {inner : List Value} {j : Nat} {c : List Value} (h : (chunks sz n inner)[j]? = some c) : c = (inner.drop (j * sz)).take sz:=by
  have hj : j < n:=by have:=(List.getElem?_eq_some_iff.1 h).1;rwa [chunks_length] at this
  rw [chunks_at hj] at h
  injection h with h
  exact h.symm
theorem reps_raw {α : Type} {Rr : α → List Value → Prop} {sz : Nat} {xs : List α} {inner : List Value} (h : Reps Rr sz xs inner) (hR : ∀ x c,Rr x c → c.length = sz ∧ ∀ u ∈ c,u.oneCell' = true) : Reps (fun x cs=>cs = x ∧ cs.length = sz ∧ ∀ u ∈ cs,u.oneCell' = true) sz (chunks sz xs.length inner) inner:=by
  refine ⟨by rw [chunks_length];exact h.1,fun j p hj=>?_⟩
  have hjl : j < xs.length:=by have:=(List.getElem?_eq_some_iff.1 hj).1;rwa [chunks_length] at this
  have hp:=chunks_get hj
  exact ⟨hp.symm,hR _ _ (h.2 j _ (List.getElem?_eq_getElem hjl))⟩
section
variable {α : Type} {d : Kd α} {e base n cc g : Nat} {ok ok' okp S : Nat → Prop} {w w1 W W1 : World} {A : Option Addr} {u v v1 : Value} {xs : List α} {x : α} {c : List Value}
def N {α : Type} (d : Kd α) (e : Nat) (w : World) (base : Nat) (ok : Nat → Prop) (v : Value) (xs : List α) : Prop :=
  (∀ k,v.ownBlock = some k → ok k) ∧ ∃ rows : List (List Value),rows.length = xs.length ∧ (raw d.sz).R e w base (fun k=>some k = v.ownBlock) v rows ∧ ∀ (j : Nat) (x : α) (c : List Value),xs[j]? = some x → rows[j]? = some c → FK d w (fun k=>ok k ∧ some k ≠ v.ownBlock) x c
theorem R_N (h : d.R e w base ok v xs) : N d e w base ok v xs:=by
  obtain ⟨h0,inner,ho,hr⟩:=h
  refine ⟨h0,chunks d.sz xs.length inner,chunks_length _ _ _,⟨fun k hk=>hk.symm,inner,by rw [chunks_length];exact ho,reps_raw hr (fun x c hp=>⟨d.K_len (d.K_of_M hp),d.K_one (d.K_of_M hp)⟩)⟩,fun j x c hx hc=>?_⟩
  rw [chunks_get hc]
  exact FK_of_M (hr.2 j x hx)
theorem N_nil (d : Kd α) (e : Nat) (w : World) (base : Nat) (ok : Nat → Prop) : N d e w base ok (.slice none 0 0) []:=R_N (R_nil _ _ _ _ _)
end
end Kd
end Go.Proofs.YtpfbcepgmigeiaaGreatDoorW.PrintWords
end
section
namespace Go.Proofs.YtpfbcepgmigeiaaGreatDoorW.PrintMore
open Go.RowKit Go.Proofs.YtpfbcepgmigeiaaGreatDoorW.PrintWords
namespace Kd
open Go.Proofs.YtpfbcepgmigeiaaGreatDoorW.PrintWords.Kd
end Kd
namespace Kd
open Go.Proofs.YtpfbcepgmigeiaaGreatDoorW.PrintWords.Kd
section
variable {α : Type} {d : Kd α} {e base g N : Nat} {ok : Nat → Prop} {W w1 : World} {u v : Value} {xs : List α}
end
end Kd
theorem max2_int (k k' : IntKind) (x y : Int) : Builtin.max2 (.int k x) (.int k' y) = pure (.int k (if x < y then y else x)):=by simp only [Builtin.max2,gt_iff_lt]
theorem min2_int (k k' : IntKind) (x y : Int) : Builtin.min2 (.int k x) (.int k' y) = pure (.int k (if y < x then y else x)):=by simp only [Builtin.min2]
theorem max_two (ats : Array TypeId) (ty : TypeId) (a b : Value) : Builtin.max_ ats ty #[a,b] = (Builtin.max2 a b >>= fun s=>pure s):=by simp only [Builtin.max_,List.foldlM_cons,List.foldlM_nil]
theorem min_two (ats : Array TypeId) (ty : TypeId) (a b : Value) : Builtin.min_ ats ty #[a,b] = (Builtin.min2 a b >>= fun s=>pure s):=by simp only [Builtin.min_,List.foldlM_cons,List.foldlM_nil]
theorem max_three (ats : Array TypeId) (ty : TypeId) (a b c : Value) : Builtin.max_ ats ty #[a,b,c] = (Builtin.max2 a b >>= fun s=>Builtin.max2 s c >>= fun s=>pure s):=by simp only [Builtin.max_,List.foldlM_cons,List.foldlM_nil]
theorem min_three (ats : Array TypeId) (ty : TypeId) (a b c : Value) : Builtin.min_ ats ty #[a,b,c] = (Builtin.min2 a b >>= fun s=>Builtin.min2 s c >>= fun s=>pure s):=by simp only [Builtin.min_,List.foldlM_cons,List.foldlM_nil]
theorem max_four (ats : Array TypeId) (ty : TypeId) (a b c d : Value) : Builtin.max_ ats ty #[a,b,c,d] = (Builtin.max2 a b >>= fun s=>Builtin.max2 s c >>= fun s=>Builtin.max2 s d >>= fun s=>pure s):=by simp only [Builtin.max_,List.foldlM_cons,List.foldlM_nil]
theorem min_four (ats : Array TypeId) (ty : TypeId) (a b c d : Value) : Builtin.min_ ats ty #[a,b,c,d] = (Builtin.min2 a b >>= fun s=>Builtin.min2 s c >>= fun s=>Builtin.min2 s d >>= fun s=>pure s):=by simp only [Builtin.min_,List.foldlM_cons,List.foldlM_nil]
end Go.Proofs.YtpfbcepgmigeiaaGreatDoorW.PrintMore
namespace Go.Proofs.YtpfbcepgmigeiaaGreatDoorW.PrintWords
open Go.RowKit
section
variable {P : Program} {ops : Array Oper} {rest : List Oper} {o : Oper} {a : Act} {Q : Exit → Act → World → Prop} {W : World}
theorem gate_callee {f : FuncId} {as_ : Array Operand} {ts : Array TypeId} (_ho : o.op = .call { callee:=.value (.func f),args:=as_,argTypes:=ts }) (h : wpList P ops Q (o :: rest) a W) : wpList P ops Q (o :: rest) a W:=h
theorem gate_builtin {b : Builtin} {xs : Array Operand} {ts : Array TypeId} (_ho : o.op = .call { callee:=.builtin b,args:=xs,argTypes:=ts }) (h : wpList P ops Q (o :: rest) a W) : wpList P ops Q (o :: rest) a W:=h
end
namespace Kd
section
variable {α : Type} {d : Kd α} {e base : Nat} {ok : Nat → Prop} {W w1 : World} {v : Value} {xs : List α}
end
section
variable {α : Type} {d : Kd α} {e base g n cap : Nat} {ok oki okp : Nat → Prop} {W : World} {xs : List α} {i : Int} {c : List Value}
end
section
variable {α : Type} {d : Kd α} {e base b b' g N : Nat} {ok ok1 : Nat → Prop} {W W2 w1 : World} {u v : Value} {xs ys : List α} {S : Nat → Prop}
end
end Kd
end Go.Proofs.YtpfbcepgmigeiaaGreatDoorW.PrintWords
namespace Go.Proofs.YtpfbcepgmigeiaaGreatDoorW.PrintWords
open Go.RowKit
namespace Kd
def V {α : Type} (d : Kd α) (_e : Nat) (W : World) (_base : Nat) (ok : Nat → Prop) (v : Value) (xs : List α) : Prop:=∃ A c,v = .slice A xs.length c ∧ xs.length ≤ c ∧ F d W ok A xs.length xs
section
variable {α β : Type} {d : Kd α} {e base base' n m c g N' lo hi : Nat} {ok ok' S : Nat → Prop} {w W w1 : World} {A : Option Addr} {ad : Addr} {u v v1 : Value} {xs : List α}
theorem V_nil (d : Kd α) (e : Nat) (W : World) (base : Nat) (ok : Nat → Prop) : V d e W base ok (.slice none 0 0) []:=⟨none,0,rfl,Nat.le_refl _,F_nil d W ok⟩
end
end Kd
end Go.Proofs.YtpfbcepgmigeiaaGreatDoorW.PrintWords
end
section
namespace Go.Proofs.YtpfbcepgmigeiaaGreatDoor.Q
open Go.RowKit Go.Shelf Go.Proofs.YtpfbcepgmigeiaaGreatDoorW.PrintWords Go.Proofs.YtpfbcepgmigeiaaGreatDoorW.PrintLast Go.Proofs.YtpfbcepgmigeiaaGreatDoorS
set_option linter.unusedVariables false
set_option linter.unusedSimpArgs false
attribute [local go_sem] Oper.semAt_some
theorem utf_All_call (s : ByteArray) (w : World) :
    Calls Tryz.prog 93 #[.string s] w fun e w'=>e = .returned (.func (.func 113) #[] #[.pointer (some ⟨w.heap.size,0,none⟩)]) ∧ w' = w.alloc (.cells #[.string s] 9):=by
  go_enter Tryz.func93,Tryz.ntmps93
  go_wp2
  go_ret
  exact ⟨rfl,rfl⟩
theorem keeps_below {W W' : World} (hb : Below W.heap.size W W') : KeepsOthers W W':=⟨hb.size,fun k o ho _=>(hb.block k (Array.getElem?_eq_some_iff.1 ho).1).trans ho⟩
theorem bld_below {T e : TypeId} {B b : Nat} {bs : List Value} {W W' : World} (h : Lib.IsBuilderF T e B b bs W) (hb : Below W.heap.size W W') : Lib.IsBuilderF T e B b bs W' :=
  bld_turn h (grown_of_below hb none) (fun r e=>by cases e)
structure Tabs (w : World) : Prop where
  u : Lib.Utf8Tabs 2 3 w
  p : Lib.TabIs Tryz.prog w "internal/strconv.uint64pow10" .u64 Lib.pow10Tab
  m : ∃ m,w.cell? ⟨1,0,none⟩ = some (.int .i64 m)
theorem tabis_below {n : String} {g : Nat} {k : IntKind} {zs : List Int} {w w' : World} (hg : Tryz.prog.globalNamed n = some g) (h : Lib.TabIs Tryz.prog w n k zs) (hb : Below w.heap.size w w') : Lib.TabIs Tryz.prog w' n k zs:=by
  unfold Lib.TabIs World.var? at h ⊢
  rw [hg] at h ⊢
  simp only [Option.bind_some] at h ⊢
  have hlt : g < w.heap.size:=by
    rcases Nat.lt_or_ge g w.heap.size with h' | h'
    · exact h'
    · rw [Array.getElem?_eq_none h'] at h;cases h
  rw [hb.block g hlt]
  exact h
theorem tabs_below {w w' : World} (h : Tabs w) (hb : Below w.heap.size w w') : Tabs w' :=
  ⟨⟨fun c hc=>pw_cell_below hb (h.u.1 c hc),fun i hi=>⟨pw_cell_below hb (h.u.2 i hi).1,pw_cell_below hb (h.u.2 i hi).2⟩⟩,tabis_below (g:=0) (by kernel_rfl) h.p hb,h.m.imp fun _ hm=>pw_cell_below hb hm⟩
theorem tabs_u {w : World} (h : Tabs w) : Lib.Utf8Tabs 2 3 w:=h.u
def utf_Next.f (a0 : ByteArray) (a1 : Int) : Option (Int × Int):=if a0.size ≤ 140737488351232 then some (unext a0 a1) else none
theorem decodeGo_tail (s : ByteArray) (n : Nat) (h : n < s.size) : Lib.decodeGo (s.extract n s.size) = Utf8.decode s n:=by
  have hsz : (s.extract n s.size).size = s.size - n:=by simp
  unfold Lib.decodeGo
  rw [if_neg (by omega),Lib.decode_at,Lib.decode_at,hsz,Lib.tail_get!,Lib.tail_get!,Lib.tail_get!,Lib.tail_get!]
  rfl
set_option maxHeartbeats 4000000 in
set_option maxRecDepth 1000000 in
theorem utf_Next.calls (a0 : ByteArray) (a1 : Int) (r1 r2 : Int) (w : World) (hT : Tabs w) (h : utf_Next.f a0 a1 = some (r1,r2)) :
    Calls Tryz.prog 95 #[.string a0,.int .i64 a1] w fun e w'=>e = .returned (.tuple #[.int .i32 r1,.int .i64 r2]) ∧ Below w.heap.size w w':=by
  obtain ⟨hs,he⟩:=guard_some h
  clear h
  by_cases hin : 0 ≤ a1 ∧ a1 < a0.size
  · obtain ⟨h0,h1⟩:=hin
    obtain ⟨n,rfl⟩ : ∃ n : Nat,a1 = n:=⟨a1.toNat,by omega⟩
    have hn : n < a0.size:=by omega
    have he1 : r1 = ((Utf8.decode a0 n).1 : Int):=by
      have:=congrArg Prod.fst he
      simp only [unext] at this
      rw [if_pos ⟨h0,h1⟩,Int.toNat_natCast] at this
      exact this.symm
    have he2 : r2 = ((Utf8.decode a0 n).2 : Int):=by
      have:=congrArg Prod.snd he
      simp only [unext] at this
      rw [if_pos ⟨h0,h1⟩,Int.toNat_natCast] at this
      exact this.symm
    clear he
    replace he1:=Lib.hid he1
    replace he2:=Lib.hid he2
    have hd:=Lib.hid (decodeGo_tail a0 n hn)
    go_enter Tryz.func95,Tryz.ntmps95
    go_wp2_with (go_at_call 114;refine (Tryz.utf8_DecodeRuneInString _ _ (tabs_u hT)).mono ?_;rintro e w' ⟨rfl,hb⟩)
    go_ret2
    rw [he1.out,he2.out,hd.out]
    exact ⟨rfl,hb⟩
  · have he' : r1 = 0 ∧ r2 = 0:=by
      unfold unext at he
      rw [if_neg hin] at he
      exact ⟨(congrArg Prod.fst he).symm,(congrArg Prod.snd he).symm⟩
    obtain ⟨rfl,rfl⟩:=he'
    clear he
    by_cases h0 : a1 < 0
    · clear hin
      go_enter Tryz.func95,Tryz.ntmps95
      go_wp2
      go_ret2
      exact ⟨rfl,Below.refl _ _⟩
    · have h0 : 0 ≤ a1:=by omega
      have h1 : (a0.size : Int) ≤ a1:=by omega
      clear hin
      go_enter Tryz.func95,Tryz.ntmps95
      go_wp2
      go_ret2
      exact ⟨rfl,Below.refl _ _⟩
def utf_Valid.f (a0 : ByteArray) : Option Bool:=if a0.size ≤ 140737488351232 then some (uvalid a0) else none
set_option maxHeartbeats 4000000 in
set_option maxRecDepth 1000000 in
theorem utf_Valid.calls (a0 : ByteArray) (r : Bool) (w : World) (hT : Tabs w) (h : utf_Valid.f a0 = some r) :
    Calls Tryz.prog 68 #[.string a0] w fun e w'=>e = .returned (.bool r) ∧ Below w.heap.size w w':=by
  obtain ⟨hs,rfl⟩:=guard_some h
  clear h
  go_enter Tryz.func68,Tryz.ntmps68
  go_wp2
  go_loopw [] (fun wr=>∃ (pos f : Nat),wr.heap[w.heap.size]? = some (.stringIter a0 pos) ∧ Below w.heap.size w wr ∧ uvalid a0 = ((ulist a0 f pos).all fun t=>!(t.2.1 == 65533 && t.2.2 == 1)) ∧ a0.size ≤ pos + f) (fun wr=>a0.size - wr.iterPos w.heap.size)
  case atStart=>exact ⟨0,a0.size,World.iter_heap w a0 0,(Below.refl _ w).alloc (Nat.le_refl _) _,rfl,by omega⟩
  case round =>
    obtain ⟨pos,f,hit,hbw,hc,hf⟩:=hrel
    by_cases hp : pos < a0.size
    · have hnx : ∀ ty,(Instr.next (.pointer (some ⟨w.heap.size,0,none⟩)) true ty).run Tryz.prog wr = _:=fun ty=>Lib.run_next_any_at wr w.heap.size a0 pos ty hit hp
      have hwd:=width_pos a0 pos hp
      have hd1:=decode_le a0 pos
      have hit2:=Lib.iterAt_heap wr (w.heap.size) a0 pos (pos + (Utf8.decode a0 pos).2) hit
      have hbw2:=Lib.below_iterAt hbw (k:=w.heap.size) (by omega) a0 (pos + (Utf8.decode a0 pos).2)
      obtain ⟨f,rfl⟩ : ∃ f',f = f' + 1:=⟨f - 1,by omega⟩
      rw [ulist_step a0 f pos hp,List.all_cons] at hc
      by_cases hb : (Utf8.decode a0 pos).1 = 65533
      · have hT2:=tabs_below hT hbw2
        have hnv : unext a0 (pos : Int) = (((Utf8.decode a0 pos).1 : Int),((Utf8.decode a0 pos).2 : Int)):=by
          unfold unext
          rw [if_pos (by omega),Int.toNat_natCast]
        have hnf : utf_Next.f a0 (pos : Int) = some (((Utf8.decode a0 pos).1 : Int),((Utf8.decode a0 pos).2 : Int)):=by
          unfold utf_Next.f
          rw [if_pos (by omega),hnv]
        replace hnf:=Lib.hid hnf
        clear hnv
        by_cases hw : (Utf8.decode a0 pos).2 = 1
        · have hr : uvalid a0 = false:=by rw [hc];simp [hb,hw]
          replace hr:=Lib.hid hr
          clear hc
          have hbb : (((Utf8.decode a0 pos).1 : Int) != 65533) = false:=by simp [hb]
          have hww : (((Utf8.decode a0 pos).2 : Int) == 1) = true:=by simp [hw]
          clear hb hw
          go_wp2_with (go_at_call 95;refine (utf_Next.calls _ _ _ _ _ hT2 hnf.out).mono ?_;rintro e w3 ⟨rfl,hb3⟩)
          go_ret
          rw [hr.out]
          exact ⟨rfl,hbw2.trans (hb3.mono hbw2.size)⟩
        · have hr : uvalid a0 = ((ulist a0 f (pos + (Utf8.decode a0 pos).2)).all fun t=>!(t.2.1 == 65533 && t.2.2 == 1)):=by rw [hc];simp [hw]
          replace hr:=Lib.hid hr
          clear hc
          have hbb : (((Utf8.decode a0 pos).1 : Int) != 65533) = false:=by simp [hb]
          have hww : (((Utf8.decode a0 pos).2 : Int) == 1) = false:=by simp;omega
          clear hb hw
          go_wp2_with (go_at_call 95;refine (utf_Next.calls _ _ _ _ _ hT2 hnf.out).mono ?_;rintro e w3 ⟨rfl,hb3⟩)
          have hit3 : w3.heap[w.heap.size]? = some (.stringIter a0 (pos + (Utf8.decode a0 pos).2)):=(hb3.block _ (Array.getElem?_eq_some_iff.1 hit2).1).trans hit2
          go_roundw
          case rel=>exact ⟨pos + (Utf8.decode a0 pos).2,f,hit3,hbw2.trans (hb3.mono hbw2.size),hr.out,by omega⟩
          case measure=>simp only [World.iterPos,hit3,hit];omega
      · have hr : uvalid a0 = ((ulist a0 f (pos + (Utf8.decode a0 pos).2)).all fun t=>!(t.2.1 == 65533 && t.2.2 == 1)):=by rw [hc];simp [hb]
        replace hr:=Lib.hid hr
        clear hc
        have hbb : (((Utf8.decode a0 pos).1 : Int) != 65533) = true:=by simp;omega
        clear hb
        go_wp2
        go_roundw
        case rel=>exact ⟨pos + (Utf8.decode a0 pos).2,f,hit2,hbw2,hr.out,by omega⟩
        case measure=>simp only [World.iterPos,hit2,hit];omega
    · have hnx : ∀ ty,(Instr.next (.pointer (some ⟨w.heap.size,0,none⟩)) true ty).run Tryz.prog wr = _:=fun ty=>Lib.run_next_end_at wr (w.heap.size) a0 pos ty hit hp
      rw [ulist_end a0 f pos hp] at hc
      replace hc:=Lib.hid hc
      go_wp2
      go_ret
      rw [hc.out]
      exact ⟨rfl,hbw⟩
end Go.Proofs.YtpfbcepgmigeiaaGreatDoor.Q
end
section
namespace Go.Proofs.YtpfbcepgmigeiaaGreatDoorS
open Go
def uclass (r : Int) : Int :=
  if 48 ≤ r ∧ r ≤ 57 then 2
  else if (9 ≤ r ∧ r ≤ 13) ∨ r = 32 ∨ r = 160 then 3
  else if 768 ≤ r ∧ r ≤ 879 then 4
  else if r = 215 ∨ r = 247 ∨ r = 930 then 0
  else if (65 ≤ r ∧ r ≤ 90) ∨ (97 ≤ r ∧ r ≤ 122) ∨ (192 ≤ r ∧ r ≤ 383) ∨ (913 ≤ r ∧ r ≤ 937) ∨ (945 ≤ r ∧ r ≤ 969) ∨ (1024 ≤ r ∧ r ≤ 1119) then 1
  else 0
def uupper (r : Int) : Int :=
  if r = 247 ∨ r = 305 then r
  else if r = 255 then 376
  else if r = 962 then 931
  else if (97 ≤ r ∧ r ≤ 122) ∨ (224 ≤ r ∧ r ≤ 254) ∨ (945 ≤ r ∧ r ≤ 969) ∨ (1072 ≤ r ∧ r ≤ 1103) then r - 32
  else if 1104 ≤ r ∧ r ≤ 1119 then r - 80
  else if (256 ≤ r ∧ r ≤ 311) ∨ (330 ≤ r ∧ r ≤ 375) then r - r % 2
  else if (313 ≤ r ∧ r ≤ 328) ∨ (377 ≤ r ∧ r ≤ 382) then r - 1 + r % 2
  else r
def uplainOf (r : Int) : Option (List UInt8) :=
  if r = 198 then some [65,69]
  else if r = 338 then some [79,69]
  else if r = 223 then some [83,83]
  else if [192,193,194,195,196,197,256,258,260].contains r then some [65]
  else if [199,262,264,266,268].contains r then some [67]
  else if [270,272].contains r then some [68]
  else if [200,201,202,203,274,276,278,280,282].contains r then some [69]
  else if [284,286,288,290].contains r then some [71]
  else if [292,294].contains r then some [72]
  else if [204,205,206,207,296,298,300,302,304].contains r then some [73]
  else if r = 308 then some [74]
  else if r = 310 then some [75]
  else if [313,315,317,319,321].contains r then some [76]
  else if [209,323,325,327].contains r then some [78]
  else if [210,211,212,213,214,216,332,334,336].contains r then some [79]
  else if [340,342,344].contains r then some [82]
  else if [346,348,350,352].contains r then some [83]
  else if [354,356,358].contains r then some [84]
  else if [217,218,219,220,360,362,364,366,368,370].contains r then some [85]
  else if r = 372 then some [87]
  else if [221,374,376].contains r then some [89]
  else if [377,379,381].contains r then some [90]
  else none
def uplain (r : Int) : ByteArray:=match uplainOf r with
  | some l=>⟨l.toArray⟩
  | none=>Utf8.encode r
def upiece (plain : Bool) (r : Int) : List UInt8:=if uclass r = 1 then (if plain then (uplain (uupper r)).data.toList else (Utf8.encode (uupper r)).data.toList) else []
def ugood (r : Int) : Bool:=uclass r == 1 && uupper r == r
def uletter (s : ByteArray) : Bool:=((urunes s).all ugood) && decide (1 ≤ ucount s ∧ ucount s ≤ 3)
def podd (x : Nat) : Bool:=decide (x < 32) || x == 127
end Go.Proofs.YtpfbcepgmigeiaaGreatDoorS
end
section
namespace Go.Proofs.YtpfbcepgmigeiaaGreatDoorS
open Go
def gby (way : Int) : Int × Int:=if way = 0 then (0,1) else if way = 1 then (1,0) else if way = 2 then (0,-1) else (-1,0)
def gat (l : List Bool) (i : Int) : Bool:=l.getD i.toNat false
def gstep (H W : Int) (bl ri be : List Bool) (i way : Int) : Int × Bool :=
  if i / W + (gby way).1 < 0 ∨ H ≤ i / W + (gby way).1 ∨ i % W + (gby way).2 < 0 ∨ W ≤ i % W + (gby way).2 then (0,false)
  else if gat bl ((i / W + (gby way).1) * W + (i % W + (gby way).2)) then (0,false)
  else if ((gby way).1 = 0 ∧ gat ri (min i ((i / W + (gby way).1) * W + (i % W + (gby way).2))) = true) ∨ ((gby way).2 = 0 ∧ gat be (min i ((i / W + (gby way).1) * W + (i % W + (gby way).2))) = true) then (0,false)
  else ((i / W + (gby way).1) * W + (i % W + (gby way).2),true)
def gbad (H W : Int) (bl ri be : List Bool) (i : Int) : Bool :=
  (gat ri i && (gat bl i || (i % W == W - 1) || gat bl (i + 1))) || (gat be i && (gat bl i || (i / W == H - 1) || gat bl (i + W)))
def gsides (H W : Int) : Bool:=decide (1 ≤ H ∧ H ≤ 16) && decide (1 ≤ W ∧ W ≤ 16)
def gsizes (H W : Int) (bl ri be : List Bool) : Bool:=decide ((bl.length : Int) = H * W ∧ (ri.length : Int) = H * W ∧ (be.length : Int) = H * W)
def gbads (H W : Int) (bl ri be : List Bool) : Nat → Nat → Bool
  | 0,_=>false
  | d + 1,i=>gbad H W bl ri be i || gbads H W bl ri be d (i + 1)
def gcheck (H W : Int) (bl ri be : List Bool) : Int :=
  if gsides H W = false then 50 else if gsizes H W bl ri be = false then 51 else if gbads H W bl ri be bl.length 0 then 52 else 0
def gopen (bl : List Bool) (i : Int) : Bool:=decide (0 ≤ i ∧ i < bl.length) && !gat bl i
def gStep (H W : Int) (bl ri be : List Bool) (i way : Int) : Int × Bool:=if gopen bl i then gstep H W bl ri be i way else (0,false)
def grun (H W : Int) (bl ri be : List Bool) (way : Int) : Nat → Int → List Int
  | 0,i=>[i]
  | f + 1,i=>if (gStep H W bl ri be i way).2 then i :: grun H W bl ri be way f (gStep H W bl ri be i way).1 else [i]
def gbegins (H W : Int) (bl ri be : List Bool) (i way : Int) : Bool:=!(gStep H W bl ri be i (way + 2)).2 && (gStep H W bl ri be i way).2
def gslots (H W : Int) (bl ri be : List Bool) : Nat → Nat → Int → List (Int × Bool × List Int)
  | 0,_,_=>[]
  | d + 1,i,num =>
    (if gbegins H W bl ri be i 0 then [(num + 1,false,grun H W bl ri be 0 bl.length i)] else []) ++
    (if gbegins H W bl ri be i 1 then [(num + 1,true,grun H W bl ri be 1 bl.length i)] else []) ++
    gslots H W bl ri be d (i + 1) (if gbegins H W bl ri be i 0 || gbegins H W bl ri be i 1 then num + 1 else num)
def gslotsAll (H W : Int) (bl ri be : List Bool) : List (Int × Bool × List Int):=gslots H W bl ri be bl.length 0 0
theorem gstep_to {H W : Int} {bl ri be : List Bool} {i way : Int} (hW : 1 ≤ W) (hl : (bl.length : Int) = H * W) (h : (gstep H W bl ri be i way).2 = true) :
    0 ≤ (gstep H W bl ri be i way).1 ∧ (gstep H W bl ri be i way).1 < bl.length ∧ gat bl (gstep H W bl ri be i way).1 = false:=by
  unfold gstep at h ⊢
  generalize (gby way).1 = dr at h ⊢
  generalize (gby way).2 = dc at h ⊢
  generalize i / W + dr = r at h ⊢
  generalize i % W + dc = c at h ⊢
  split at h
  · cases h
  · split at h
    · cases h
    · split at h
      · cases h
      · rename_i h1 h2 h3
        rw [if_neg h1,if_neg h2,if_neg h3]
        have hr : r + 1 ≤ H:=by omega
        have hr0 : 0 ≤ r:=by omega
        have e1 : (r + 1) * W ≤ H * W:=Int.mul_le_mul_of_nonneg_right hr (by omega)
        have e2 : 0 ≤ r * W:=Int.mul_nonneg hr0 (by omega)
        rw [Int.add_mul,Int.one_mul] at e1
        refine ⟨?_,?_,?_⟩
        · show 0 ≤ r * W + c
          omega
        · show r * W + c < (bl.length : Int)
          omega
        · cases hh : gat bl (r * W + c) with
          | false=>rfl
          | true=>exact absurd hh h2
theorem gstep_up {H W : Int} {bl ri be : List Bool} {i way : Int} (hW : 1 ≤ W) (hi : 0 ≤ i) (hw : way = 0 ∨ way = 1) (h : (gstep H W bl ri be i way).2 = true) : i < (gstep H W bl ri be i way).1:=by
  have hm:=Int.mul_ediv_add_emod i W
  rw [Int.mul_comm] at hm
  rcases hw with rfl | rfl
  · unfold gstep at h ⊢
    simp only [show (gby 0).1 = 0 from rfl,show (gby 0).2 = 1 from rfl,Int.add_zero] at h ⊢
    split at h
    · cases h
    · split at h
      · cases h
      · split at h
        · cases h
        · rename_i h1 h2 h3
          rw [if_neg h1,if_neg h2,if_neg h3]
          show i < i / W * W + (i % W + 1)
          omega
  · unfold gstep at h ⊢
    simp only [show (gby 1).1 = 1 from rfl,show (gby 1).2 = 0 from rfl,Int.add_zero] at h ⊢
    split at h
    · cases h
    · split at h
      · cases h
      · split at h
        · cases h
        · rename_i h1 h2 h3
          rw [if_neg h1,if_neg h2,if_neg h3]
          show i < (i / W + 1) * W + i % W
          rw [Int.add_mul,Int.one_mul]
          omega
def gways (H W : Int) (bl ri be : List Bool) (i : Int) : Nat → Int → Bool → Int → List (Int × Bool × List Int)
  | 0,_,_,_=>[]
  | d + 1,way,b,n=>if gbegins H W bl ri be i way then ((if b then n else n + 1),way == 1,grun H W bl ri be way bl.length i) :: gways H W bl ri be i d (way + 1) true (if b then n else n + 1) else gways H W bl ri be i d (way + 1) b n
def gwaysN (H W : Int) (bl ri be : List Bool) (i : Int) : Nat → Int → Bool → Int → Int
  | 0,_,_,n=>n
  | d + 1,way,b,n=>if gbegins H W bl ri be i way then gwaysN H W bl ri be i d (way + 1) true (if b then n else n + 1) else gwaysN H W bl ri be i d (way + 1) b n
theorem gslots_ways (H W : Int) (bl ri be : List Bool) (d i : Nat) (num : Int) : gslots H W bl ri be (d + 1) i num = gways H W bl ri be i 2 0 false num ++ gslots H W bl ri be d (i + 1) (gwaysN H W bl ri be i 2 0 false num):=by
  have e : (0 : Int) + 1 = 1:=rfl
  cases h0 : gbegins H W bl ri be i 0 <;> cases h1 : gbegins H W bl ri be i 1 <;> simp [gslots,gways,gwaysN,e,h0,h1]
end Go.Proofs.YtpfbcepgmigeiaaGreatDoorS
end
section
namespace Go.Proofs.YtpfbcepgmigeiaaGreatDoorW.PrintLast
open Go.Proofs.YtpfbcepgmigeiaaGreatDoorW.PrintWords (Aside0)
def needsOf (md : Region.Mode) (o : Oper) : List Nat:=(o.after.toList.filter (fun e=>Region.binds md e)).map (fun e=>e.on)
def clashOf (md : Region.Mode) (ops : Array Oper) (i : Nat) (oi : Oper) : List Nat:=(List.range ops.size).filter fun j=>!(j == i) && match ops[j]? with
  | some oj=>!(oj.after.any (fun e=>Region.binds md e && e.on == i) || oi.apart ops oj)
  | none=>false
def rtab (md : Region.Mode) (ops : Array Oper) : Bool × List (List Nat × List Nat):=(Region.noSelect ops,(List.range ops.size).map fun i=>match ops[i]? with
  | some o=>(needsOf md o,clashOf md ops i o)
  | none=>([],[]))
def readyAt (T : List (List Nat × List Nat)) (l : List Bool) (i : Nat) : Bool:=!l.getD i true && match T[i]? with
  | some r=>r.1.all (fun j=>l.getD j false)
  | none=>false
def readyT (T : List (List Nat × List Nat)) (l : List Bool) : List Nat:=(List.range T.length).filter (readyAt T l)
def freeT (T : List (List Nat × List Nat)) (l : List Bool) (i : Nat) : Bool:=match T[i]? with
  | some r=>r.2.all (fun j=>l.getD j true)
  | none=>false
section
variable {md : Region.Mode} {ops : Array Oper} {T : Bool × List (List Nat × List Nat)} {l l' li lj lk : Array Bool} {ds : List Nat} {i j k : Nat}
theorem gd (l : Array Bool) (j : Nat) (b : Bool) : l.getD j b = l.toList.getD j b:=by simp [Array.getD_eq_getD_getElem?,List.getD_eq_getElem?_getD]
theorem needs_all (o : Oper) (p : Nat → Bool) : o.after.all (fun e=>!Region.binds md e || p e.on) = (needsOf md o).all p:=by
  unfold needsOf
  rw [← Array.all_toList]
  induction o.after.toList with
  | nil=>rfl
  | cons e r ih =>
    rw [List.all_cons,ih,List.filter_cons]
    cases h : Region.binds md e <;> simp
theorem rtab_length : (rtab md ops).2.length = ops.size:=by simp [rtab]
theorem rtab_some {o : Oper} (h : ops[i]? = some o) : (rtab md ops).2[i]? = some (needsOf md o,clashOf md ops i o):=by
  have hi:=(Array.getElem?_eq_some_iff.1 h).1
  unfold rtab
  rw [List.getElem?_map,List.getElem?_range hi,Option.map_some,h]
theorem rtab_none (h : ops[i]? = none) : (rtab md ops).2[i]? = none:=by
  have hi : ops.size ≤ i:=Array.getElem?_eq_none_iff.1 h
  exact List.getElem?_eq_none (by rw [rtab_length];exact hi)
theorem readyAt_eq : readyAt (rtab md ops).2 l.toList i = (!l.getD i true && ((ops[i]?).map (·.after.all fun e=>!Region.binds md e || l.getD e.on false)).getD false):=by
  unfold readyAt
  rw [gd]
  cases h : ops[i]? with
  | none=>rw [rtab_none h];rfl
  | some o =>
    rw [rtab_some h]
    simp only [Option.map_some,Option.getD_some]
    rw [← needs_all]
    simp only [gd]
theorem ready_eq : Region.ready md ops l = readyT (rtab md ops).2 l.toList:=by
  unfold Region.ready readyT
  rw [rtab_length]
  refine List.filter_congr (fun i _=>?_)
  rw [readyAt_eq]
theorem free_eq : Region.free md ops l i = freeT (rtab md ops).2 l.toList i:=by
  unfold Region.free freeT
  cases h : ops[i]? with
  | none=>rw [rtab_none h]
  | some oi =>
    rw [rtab_some h]
    simp only [clashOf]
    rw [List.all_filter]
    congr 1
    funext j
    rw [gd]
    cases hj : ops[j]? with
    | none=>cases (j == i) <;> cases (l.toList.getD j true) <;> simp
    | some oj =>
      cases (j == i) <;> cases (l.toList.getD j true) <;> cases (oj.after.any (fun e=>Region.binds md e && e.on == i) || oi.apart ops oj) <;> simp_all
theorem readyAt_mem (h : readyAt T.2 l.toList i = true) (hT : rtab md ops = T) : (Region.ready md ops l).contains i = true:=by
  subst hT
  rw [ready_eq]
  unfold readyT
  rw [List.contains_iff_mem,List.mem_filter,List.mem_range]
  refine ⟨?_,h⟩
  unfold readyAt at h
  rw [Bool.and_eq_true] at h
  cases hq : (rtab md ops).2[i]? with
  | none=>rw [hq] at h;simp at h
  | some r=>exact (List.getElem?_eq_some_iff.1 hq).1
theorem set_of (h : (l.toList.set i true == l'.toList) = true) : (l.setIfInBounds i true == l') = true:=by
  rw [beq_iff_eq] at h ⊢
  apply Array.ext'
  rw [Array.toList_setIfInBounds]
  exact h
def anyT (T : Bool × List (List Nat × List Nat)) (l l' : List Bool) (i : Nat) : Bool:=T.1 && freeT T.2 l i && readyAt T.2 l i && (l.set i true == l')
theorem any_of (hT : rtab md ops = T) (h : anyT T l.toList l'.toList i = true) : anyB md ops l l' i = true:=by
  simp only [anyT,Bool.and_eq_true] at h
  obtain ⟨⟨⟨h1,h2⟩,h3⟩,h4⟩:=h
  have h5:=readyAt_mem h3 hT
  have h6:=set_of h4
  subst hT
  simp only [anyB,Bool.and_eq_true]
  exact ⟨⟨⟨h1,by rw [free_eq];exact h2⟩,h5⟩,h6⟩
theorem one_of (hT : rtab md ops = T) (h : (readyT T.2 l.toList == [i] && l.toList.set i true == l'.toList) = true) : readyB md ops l l' i = true:=by
  simp only [Bool.and_eq_true] at h
  obtain ⟨h1,h2⟩:=h
  subst hT
  simp only [readyB,Bool.and_eq_true]
  exact ⟨by rw [ready_eq];exact h1,set_of h2⟩
theorem two_of (hT : rtab md ops = T) (h : (readyT T.2 l.toList == [i,j] && l.toList.set i true == li.toList && l.toList.set j true == lj.toList) = true) : (Region.ready md ops l == [i,j] && l.setIfInBounds i true == li && l.setIfInBounds j true == lj) = true:=by
  simp only [Bool.and_eq_true] at h ⊢
  obtain ⟨⟨h1,h2⟩,h3⟩:=h
  subst hT
  exact ⟨⟨by rw [ready_eq];exact h1,set_of h2⟩,set_of h3⟩
theorem done_of (hT : rtab md ops = T) (h : (readyT T.2 l.toList == []) = true) : (Region.ready md ops l == []) = true:=by
  subst hT
  rw [ready_eq]
  exact h
def upM (B : List Nat) (d : Nat) : List Nat → Nat
  | []=>0
  | n :: r=>(2 ^ n ||| (if n < d then B.getD n 0 else 0)) ||| upM B d r
def waitsOk (T : List (List Nat × List Nat)) (B : List Nat) : Bool:=(List.range T.length).all fun d=>match T[d]? with
  | some r=>(B.getD d 0 ||| upM B d r.1) == upM B d r.1
  | none=>false
theorem upM_bit {B : List Nat} {d i : Nat} : ∀ {ns : List Nat},(upM B d ns).testBit i = true → ∃ n ∈ ns,n = i ∨ (n < d ∧ (B.getD n 0).testBit i = true)
  | [],h=>by simp [upM] at h
  | n :: r,h=>by
    unfold upM at h
    rw [Nat.testBit_or,Nat.testBit_or,Bool.or_eq_true,Bool.or_eq_true] at h
    rcases h with (h | h) | h
    · rw [Nat.testBit_two_pow] at h
      exact ⟨n,List.mem_cons_self,.inl (by simpa using h)⟩
    · by_cases hn : n < d
      · rw [if_pos hn] at h
        exact ⟨n,List.mem_cons_self,.inr ⟨hn,h⟩⟩
      · rw [if_neg hn] at h
        simp at h
    · obtain ⟨m,hm,h2⟩:=upM_bit h
      exact ⟨m,List.mem_cons_of_mem _ hm,h2⟩
theorem with_tabW {P : Program} {Q : Exit → Act → World → Prop} {S : World → Prop} {n : Nat} {a : Act} {w : World} {B : List Nat} (hT : rtab md ops = T) (hB : waitsOk T.2 B = true) (h : Aside0 (rtab md ops = T) → Aside0 (waitsOk T.2 B = true) → wpAnyLast P md ops Q S ds n l a w) : wpAnyLast P md ops Q S ds n l a w:=h ⟨hT⟩ ⟨hB⟩
end
def opsIn : Code → Nat → Option (Array Oper)
  | .region id ops _,k=>if id == k then some ops else none
  | .seq a b,k=>match opsIn a k with
    | some o=>some o
    | none=>opsIn b k
  | .cond _ a b,k=>match opsIn a k with
    | some o=>some o
    | none=>opsIn b k
  | .block _ c,k=>opsIn c k
  | .loop c,k=>opsIn c k
  | .scope c,k=>opsIn c k
  | .rangeFunc _ _ a b,k=>match opsIn a k with
    | some o=>some o
    | none=>opsIn b k
  | _,_=>none
def opsOf (f : Func) (k : Nat) : Array Oper:=((f.body.bind fun c=>opsIn c k)).getD #[]
end Go.Proofs.YtpfbcepgmigeiaaGreatDoorW.PrintLast
end
