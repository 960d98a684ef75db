/- PART 3 OF A PROOF: Lean functions, and that the program computes them; written by hand and by a program. Not trusted: Lean checks it. -/
import Derived.ArgAppend
import Derived.Below
import Derived.BigQuiet
import Derived.Deep.AppendLies
import Derived.Deep.CutBlock
import Derived.Deep.DeepCutAuto
import Derived.Deep.Draws
import Derived.Deep.LoopGhost
import Derived.Deep.OwnRows
import Derived.Deep.QuietTactic
import Derived.Deep.RegionHeld3
import Derived.KernelRfl
import Derived.Laws.BitsLemmas
import Derived.Laws.BytesArg
import Derived.Laws.IdiomCopy
import Derived.Laws.MakeOwn
import Derived.Laws.OwnMore
import Derived.Laws.Rows
import Derived.Laws.Slices
import Derived.Laws.StructEq
import Derived.Lib.AppendStr
import Derived.Lib.ConvBytes
import Derived.Maps.AppendAt
import Derived.OrdersHeld
import Derived.OwnWalk
import Derived.RowKit
import Derived.RowKit3
import Derived.Tactics
import Derived.Test.YtjopbfidjapmbaaGreatDoorProg
import Derived.WalkKit
import Derived.WideLaws
import Derived.Test.YtjopbfidjapmbaaGreatDoorTa1
import Derived.Test.YtjopbfidjapmbaaGreatDoorTa2
set_option linter.unusedVariables false
set_option linter.unusedSimpArgs false
section
namespace Go.Proofs.YtjopbfidjapmbaaGreatDoorW.PrintLast
open Go.Proofs.YtjopbfidjapmbaaGreatDoorW.PrintWords (Aside0)
def needsOf (md : Region.Mode) (o : Oper) : List Nat:=(o.after.toList.filter (fun e=>Region.binds md e)).map (fun e=>e.on)
def clashOf (md : Region.Mode) (ops : Array Oper) (i : Nat) (oi : Oper) : List Nat:=(List.range ops.size).filter fun j=>!(j == i) && match ops[j]? with
  | some oj=>!(oj.after.any (fun e=>Region.binds md e && e.on == i) || oi.apart ops oj)
  | none=>false
def rtab (md : Region.Mode) (ops : Array Oper) : Bool × List (List Nat × List Nat):=(Region.noSelect ops,(List.range ops.size).map fun i=>match ops[i]? with
  | some o=>(needsOf md o,clashOf md ops i o)
  | none=>([],[]))
def readyAt (T : List (List Nat × List Nat)) (l : List Bool) (i : Nat) : Bool:=!l.getD i true && match T[i]? with
  | some r=>r.1.all (fun j=>l.getD j false)
  | none=>false
def readyT (T : List (List Nat × List Nat)) (l : List Bool) : List Nat:=(List.range T.length).filter (readyAt T l)
def freeT (T : List (List Nat × List Nat)) (l : List Bool) (i : Nat) : Bool:=match T[i]? with
  | some r=>r.2.all (fun j=>l.getD j true)
  | none=>false
def closedT (T : List (List Nat × List Nat)) (l : List Bool) : Bool:=(List.range T.length).all fun j=>!l.getD j false || match T[j]? with
  | some r=>r.1.all (fun k=>l.getD k false)
  | none=>true
def reachT (T : List (List Nat × List Nat)) (i : Nat) : Nat → Nat → Bool
  | 0,_=>false
  | fuel + 1,d=>match T[d]? with
    | some r=>r.1.any fun j=>j == i || reachT T i fuel j
    | none=>false
def lastT (T : List (List Nat × List Nat)) (l : List Bool) (ds : List Nat) (i : Nat) : Bool:=ds.all fun d=>l.getD d true || reachT T i T.length d
section
variable {md : Region.Mode} {ops : Array Oper} {T : Bool × List (List Nat × List Nat)} {l l' li lj lk : Array Bool} {ds : List Nat} {i j k : Nat}
theorem gd (l : Array Bool) (j : Nat) (b : Bool) : l.getD j b = l.toList.getD j b:=by simp [Array.getD_eq_getD_getElem?,List.getD_eq_getElem?_getD]
theorem needs_all (o : Oper) (p : Nat → Bool) : o.after.all (fun e=>!Region.binds md e || p e.on) = (needsOf md o).all p:=by
  unfold needsOf
  rw [← Array.all_toList]
  induction o.after.toList with
  | nil=>rfl
  | cons e r ih =>
    rw [List.all_cons,ih,List.filter_cons]
    cases h : Region.binds md e <;> simp
theorem needs_any (o : Oper) (p : Nat → Bool) : o.after.any (fun e=>Region.binds md e && p e.on) = (needsOf md o).any p:=by
  unfold needsOf
  rw [← Array.any_toList]
  induction o.after.toList with
  | nil=>rfl
  | cons e r ih =>
    rw [List.any_cons,ih,List.filter_cons]
    cases h : Region.binds md e <;> simp
theorem rtab_length : (rtab md ops).2.length = ops.size:=by simp [rtab]
theorem rtab_some {o : Oper} (h : ops[i]? = some o) : (rtab md ops).2[i]? = some (needsOf md o,clashOf md ops i o):=by
  have hi:=(Array.getElem?_eq_some_iff.1 h).1
  unfold rtab
  rw [List.getElem?_map,List.getElem?_range hi,Option.map_some,h]
theorem rtab_none (h : ops[i]? = none) : (rtab md ops).2[i]? = none:=by
  have hi : ops.size ≤ i:=Array.getElem?_eq_none_iff.1 h
  exact List.getElem?_eq_none (by rw [rtab_length];exact hi)
theorem readyAt_eq : readyAt (rtab md ops).2 l.toList i = (!l.getD i true && ((ops[i]?).map (·.after.all fun e=>!Region.binds md e || l.getD e.on false)).getD false):=by
  unfold readyAt
  rw [gd]
  cases h : ops[i]? with
  | none=>rw [rtab_none h];rfl
  | some o =>
    rw [rtab_some h]
    simp only [Option.map_some,Option.getD_some]
    rw [← needs_all]
    simp only [gd]
theorem ready_eq : Region.ready md ops l = readyT (rtab md ops).2 l.toList:=by
  unfold Region.ready readyT
  rw [rtab_length]
  refine List.filter_congr (fun i _=>?_)
  rw [readyAt_eq]
theorem free_eq : Region.free md ops l i = freeT (rtab md ops).2 l.toList i:=by
  unfold Region.free freeT
  cases h : ops[i]? with
  | none=>rw [rtab_none h]
  | some oi =>
    rw [rtab_some h]
    simp only [clashOf]
    rw [List.all_filter]
    congr 1
    funext j
    rw [gd]
    cases hj : ops[j]? with
    | none=>cases (j == i) <;> cases (l.toList.getD j true) <;> simp
    | some oj =>
      cases (j == i) <;> cases (l.toList.getD j true) <;> cases (oj.after.any (fun e=>Region.binds md e && e.on == i) || oi.apart ops oj) <;> simp_all
theorem closed_eq : Region.closedB md ops l = closedT (rtab md ops).2 l.toList:=by
  unfold Region.closedB closedT
  rw [rtab_length]
  congr 1
  funext j
  rw [gd]
  cases h : ops[j]? with
  | none=>rw [rtab_none h]
  | some o =>
    rw [rtab_some h]
    simp only
    rw [← needs_all]
    simp only [gd]
theorem reach_eq : ∀ (fuel d : Nat),Region.reachB md ops i fuel d = reachT (rtab md ops).2 i fuel d
  | 0,_=>rfl
  | fuel + 1,d=>by
    unfold Region.reachB reachT
    cases h : ops[d]? with
    | none=>rw [rtab_none h]
    | some o =>
      rw [rtab_some h]
      simp only
      rw [← needs_any]
      congr 1
      funext e
      rw [reach_eq fuel]
theorem last_eq : Region.lastB md ops l ds i = lastT (rtab md ops).2 l.toList ds i:=by
  unfold Region.lastB lastT
  rw [rtab_length]
  congr 1
  funext d
  rw [gd,reach_eq]
theorem readyAt_mem (h : readyAt T.2 l.toList i = true) (hT : rtab md ops = T) : (Region.ready md ops l).contains i = true:=by
  subst hT
  rw [ready_eq]
  unfold readyT
  rw [List.contains_iff_mem,List.mem_filter,List.mem_range]
  refine ⟨?_,h⟩
  unfold readyAt at h
  rw [Bool.and_eq_true] at h
  cases hq : (rtab md ops).2[i]? with
  | none=>rw [hq] at h;simp at h
  | some r=>exact (List.getElem?_eq_some_iff.1 hq).1
theorem set_of (h : (l.toList.set i true == l'.toList) = true) : (l.setIfInBounds i true == l') = true:=by
  rw [beq_iff_eq] at h ⊢
  apply Array.ext'
  rw [Array.toList_setIfInBounds]
  exact h
def anyT (T : Bool × List (List Nat × List Nat)) (l l' : List Bool) (i : Nat) : Bool:=T.1 && freeT T.2 l i && readyAt T.2 l i && (l.set i true == l')
theorem any_of (hT : rtab md ops = T) (h : anyT T l.toList l'.toList i = true) : anyB md ops l l' i = true:=by
  simp only [anyT,Bool.and_eq_true] at h
  obtain ⟨⟨⟨h1,h2⟩,h3⟩,h4⟩:=h
  have h5:=readyAt_mem h3 hT
  have h6:=set_of h4
  subst hT
  simp only [anyB,Bool.and_eq_true]
  exact ⟨⟨⟨h1,by rw [free_eq];exact h2⟩,h5⟩,h6⟩
def takeT (T : Bool × List (List Nat × List Nat)) (ds : List Nat) (l l' : List Bool) (i : Nat) : Bool:=T.1 && freeT T.2 l i && readyAt T.2 l i && closedT T.2 l && lastT T.2 l ds i && (l.set i true == l')
theorem take_of (hT : rtab md ops = T) (h : takeT T ds l.toList l'.toList i = true) : takeB md ops ds l l' i = true:=by
  simp only [takeT,Bool.and_eq_true] at h
  obtain ⟨⟨⟨⟨⟨h1,h2⟩,h3⟩,h4⟩,h5⟩,h6⟩:=h
  have h7:=readyAt_mem h3 hT
  have h8:=set_of h6
  subst hT
  simp only [takeB,Bool.and_eq_true]
  exact ⟨⟨⟨⟨⟨h1,by rw [free_eq];exact h2⟩,h7⟩,by rw [closed_eq];exact h4⟩,by rw [last_eq];exact h5⟩,h8⟩
theorem one_of (hT : rtab md ops = T) (h : (readyT T.2 l.toList == [i] && l.toList.set i true == l'.toList) = true) : readyB md ops l l' i = true:=by
  simp only [Bool.and_eq_true] at h
  obtain ⟨h1,h2⟩:=h
  subst hT
  simp only [readyB,Bool.and_eq_true]
  exact ⟨by rw [ready_eq];exact h1,set_of h2⟩
theorem two_of (hT : rtab md ops = T) (h : (readyT T.2 l.toList == [i,j] && l.toList.set i true == li.toList && l.toList.set j true == lj.toList) = true) : (Region.ready md ops l == [i,j] && l.setIfInBounds i true == li && l.setIfInBounds j true == lj) = true:=by
  simp only [Bool.and_eq_true] at h ⊢
  obtain ⟨⟨h1,h2⟩,h3⟩:=h
  subst hT
  exact ⟨⟨by rw [ready_eq];exact h1,set_of h2⟩,set_of h3⟩
theorem done_of (hT : rtab md ops = T) (h : (readyT T.2 l.toList == []) = true) : (Region.ready md ops l == []) = true:=by
  subst hT
  rw [ready_eq]
  exact h
def upM (B : List Nat) (d : Nat) : List Nat → Nat
  | []=>0
  | n :: r=>(2 ^ n ||| (if n < d then B.getD n 0 else 0)) ||| upM B d r
def waitsOk (T : List (List Nat × List Nat)) (B : List Nat) : Bool:=(List.range T.length).all fun d=>match T[d]? with
  | some r=>(B.getD d 0 ||| upM B d r.1) == upM B d r.1
  | none=>false
theorem upM_bit {B : List Nat} {d i : Nat} : ∀ {ns : List Nat},(upM B d ns).testBit i = true → ∃ n ∈ ns,n = i ∨ (n < d ∧ (B.getD n 0).testBit i = true)
  | [],h=>by simp [upM] at h
  | n :: r,h=>by
    unfold upM at h
    rw [Nat.testBit_or,Nat.testBit_or,Bool.or_eq_true,Bool.or_eq_true] at h
    rcases h with (h | h) | h
    · rw [Nat.testBit_two_pow] at h
      exact ⟨n,List.mem_cons_self,.inl (by simpa using h)⟩
    · by_cases hn : n < d
      · rw [if_pos hn] at h
        exact ⟨n,List.mem_cons_self,.inr ⟨hn,h⟩⟩
      · rw [if_neg hn] at h
        simp at h
    · obtain ⟨m,hm,h2⟩:=upM_bit h
      exact ⟨m,List.mem_cons_of_mem _ hm,h2⟩
theorem reach_bit {T : List (List Nat × List Nat)} {B : List Nat} (hB : waitsOk T B = true) : ∀ (fuel d : Nat),d < fuel → d < T.length → (B.getD d 0).testBit i = true → reachT T i fuel d = true
  | 0,d,h,_,_=>by omega
  | fuel + 1,d,h,hd,hb=>by
    have h1:=List.all_eq_true.1 hB d (List.mem_range.2 hd)
    cases hr : T[d]? with
    | none=>rw [hr] at h1;simp at h1
    | some r =>
      rw [hr] at h1
      simp only [beq_iff_eq] at h1
      have h2 : (upM B d r.1).testBit i = true:=by rw [← h1,Nat.testBit_or,hb,Bool.true_or]
      obtain ⟨n,hn,h3⟩:=upM_bit h2
      unfold reachT
      rw [hr]
      simp only
      rw [List.any_eq_true]
      refine ⟨n,hn,?_⟩
      rcases h3 with rfl | ⟨h4,h5⟩
      · simp
      · rw [reach_bit hB fuel n (by omega) (by omega) h5,Bool.or_true]
def lastW (T : List (List Nat × List Nat)) (B : List Nat) (l : List Bool) (ds : List Nat) (i : Nat) : Bool:=ds.all fun d=>l.getD d true || (decide (d < T.length) && (B.getD d 0).testBit i)
def takeW (T : Bool × List (List Nat × List Nat)) (B : List Nat) (ds : List Nat) (l l' : List Bool) (i : Nat) : Bool:=T.1 && freeT T.2 l i && readyAt T.2 l i && closedT T.2 l && lastW T.2 B l ds i && (l.set i true == l')
theorem take_ofW {B : List Nat} (hT : rtab md ops = T) (hB : waitsOk T.2 B = true) (h : takeW T B ds l.toList l'.toList i = true) : takeB md ops ds l l' i = true:=by
  refine take_of hT ?_
  simp only [takeW,takeT,Bool.and_eq_true] at h ⊢
  obtain ⟨⟨⟨⟨⟨h1,h2⟩,h3⟩,h4⟩,h5⟩,h6⟩:=h
  refine ⟨⟨⟨⟨⟨h1,h2⟩,h3⟩,h4⟩,?_⟩,h6⟩
  unfold lastW at h5
  unfold lastT
  rw [List.all_eq_true] at h5 ⊢
  intro d hd
  have h7:=h5 d hd
  rw [Bool.or_eq_true,Bool.and_eq_true,decide_eq_true_eq] at h7
  rcases h7 with h7 | ⟨h8,h9⟩
  · rw [h7,Bool.true_or]
  · rw [reach_bit hB _ d h8 h8 h9,Bool.or_true]
theorem with_tabW {P : Program} {Q : Exit → Act → World → Prop} {S : World → Prop} {n : Nat} {a : Act} {w : World} {B : List Nat} (hT : rtab md ops = T) (hB : waitsOk T.2 B = true) (h : Aside0 (rtab md ops = T) → Aside0 (waitsOk T.2 B = true) → wpAnyLast P md ops Q S ds n l a w) : wpAnyLast P md ops Q S ds n l a w:=h ⟨hT⟩ ⟨hB⟩
end
def opsIn : Code → Nat → Option (Array Oper)
  | .region id ops _,k=>if id == k then some ops else none
  | .seq a b,k=>match opsIn a k with
    | some o=>some o
    | none=>opsIn b k
  | .cond _ a b,k=>match opsIn a k with
    | some o=>some o
    | none=>opsIn b k
  | .block _ c,k=>opsIn c k
  | .loop c,k=>opsIn c k
  | .scope c,k=>opsIn c k
  | .rangeFunc _ _ a b,k=>match opsIn a k with
    | some o=>some o
    | none=>opsIn b k
  | _,_=>none
def opsOf (f : Func) (k : Nat) : Array Oper:=((f.body.bind fun c=>opsIn c k)).getD #[]
end Go.Proofs.YtjopbfidjapmbaaGreatDoorW.PrintLast
end
section
namespace Go.Proofs.YtjopbfidjapmbaaGreatDoorW.PrintWords
open Go.RowKit
section
variable {P : Program} {d : Nat} {xs ys : Array Value} {f : Field} {fs : List Field} {a b : Value} {r s : Bool} {w : World}
theorem eqf_last (hn : (f.name == "_") = false) (ha : (part f.type xs f.offset).run P w = .ok a w) (hb : (part f.type ys f.offset).run P w = .ok b w) (he : (Op.equalIn d f.type a b).run P w = .ok r w) : (Op.eqFields d xs ys [f]).run P w = .ok r w:=by
  have hn' : f.name ≠ "_" := by simpa using hn
  simp only [Op.eqFields,if_pos hn',Sem.run_bind,ha,hb,he,Result.andThen_ok]
  cases r <;> simp
theorem eqf_cons (hn : (f.name == "_") = false) (ha : (part f.type xs f.offset).run P w = .ok a w) (hb : (part f.type ys f.offset).run P w = .ok b w) (he : (Op.equalIn d f.type a b).run P w = .ok r w) (hr : (Op.eqFields d xs ys fs).run P w = .ok s w) : (Op.eqFields d xs ys (f :: fs)).run P w = .ok (r && s) w:=by
  have hn' : f.name ≠ "_" := by simpa using hn
  rw [Op.eqFields]
  simp only [if_pos hn',Sem.run_bind,ha,hb,he,Result.andThen_ok]
  cases r
  · simp
  · simpa using hr
theorem eqA_of {t : TypeId} {fs : Array Field} (hu : P.underlying t = some (.struct fs)) (hp : P.stoodInHeld t = false) (h : (Op.eqFields d xs ys fs.toList).run P w = .ok r w) : (Op.equalIn (d + 1) t (.agg xs) (.agg ys)).run P w = .ok r w:=by
  have hf : P.fieldsOf t = fs:=by simp [Program.fieldsOf,hu]
  rw [run_equalIn_struct (P:=P) w d t xs ys (by rw [hf];exact hu) hp,hf]
  exact h
end
end Go.Proofs.YtjopbfidjapmbaaGreatDoorW.PrintWords
end
section
namespace Go.Proofs.YtjopbfidjapmbaaGreatDoorW.PrintWords
theorem Reps.one {α : Type} {R : α → List Value → Prop} {ps : List α} {cs : List Value} {p : α} {v : Value} (hp : R p [v]) (h : Reps R 1 ps cs) : Reps R 1 (p :: ps) (v :: cs):=by
  refine ⟨by simp [h.1],fun j q hq=>?_⟩
  cases j with
  | zero =>
    simp only [List.getElem?_cons_zero,Option.some.injEq] at hq
    subst hq
    simpa using hp
  | succ j =>
    simp only [List.getElem?_cons_succ] at hq
    have h1:=h.2 j q hq
    simpa [Nat.mul_one] using h1
theorem Reps.front {α : Type} {R : α → List Value → Prop} {size : Nat} {ps : List α} {cs c all : List Value} {p : α} (hp : R p c) (hc : c.length = size) (h : Reps R size ps cs) (ha : c ++ cs = all) : Reps R size (p :: ps) all:=by
  subst ha
  refine ⟨by rw [List.length_append,hc,h.1,List.length_cons,Nat.succ_mul,Nat.add_comm],fun j q hq=>?_⟩
  cases j with
  | zero =>
    simp only [List.getElem?_cons_zero,Option.some.injEq] at hq
    subst hq
    rw [Nat.zero_mul,List.drop_zero,List.take_append_of_le_length (by omega),List.take_of_length_le (by omega)]
    exact hp
  | succ j =>
    simp only [List.getElem?_cons_succ] at hq
    have h1:=h.2 j q hq
    rw [Nat.succ_mul,List.drop_append,List.drop_of_length_le (by rw [hc];exact Nat.le_add_left _ _),List.nil_append,hc,Nat.add_sub_cancel]
    exact h1
theorem Reps.c2 {α : Type} {R : α → List Value → Prop} {ps : List α} {cs : List Value} {p : α} {va vb : Value} (hp : R p [va,vb]) (h : Reps R 2 ps cs) : Reps R 2 (p :: ps) (va :: vb :: cs):=Reps.front hp rfl h rfl
theorem Reps.c3 {α : Type} {R : α → List Value → Prop} {ps : List α} {cs : List Value} {p : α} {va vb vc : Value} (hp : R p [va,vb,vc]) (h : Reps R 3 ps cs) : Reps R 3 (p :: ps) (va :: vb :: vc :: cs):=Reps.front hp rfl h rfl
theorem Reps.c4 {α : Type} {R : α → List Value → Prop} {ps : List α} {cs : List Value} {p : α} {va vb vc vd : Value} (hp : R p [va,vb,vc,vd]) (h : Reps R 4 ps cs) : Reps R 4 (p :: ps) (va :: vb :: vc :: vd :: cs):=Reps.front hp rfl h rfl
theorem Reps.c5 {α : Type} {R : α → List Value → Prop} {ps : List α} {cs : List Value} {p : α} {va vb vc vd ve : Value} (hp : R p [va,vb,vc,vd,ve]) (h : Reps R 5 ps cs) : Reps R 5 (p :: ps) (va :: vb :: vc :: vd :: ve :: cs):=Reps.front hp rfl h rfl
theorem Reps.c6 {α : Type} {R : α → List Value → Prop} {ps : List α} {cs : List Value} {p : α} {va vb vc vd ve vf : Value} (hp : R p [va,vb,vc,vd,ve,vf]) (h : Reps R 6 ps cs) : Reps R 6 (p :: ps) (va :: vb :: vc :: vd :: ve :: vf :: cs):=Reps.front hp rfl h rfl
theorem Reps.c7 {α : Type} {R : α → List Value → Prop} {ps : List α} {cs : List Value} {p : α} {va vb vc vd ve vf vg : Value} (hp : R p [va,vb,vc,vd,ve,vf,vg]) (h : Reps R 7 ps cs) : Reps R 7 (p :: ps) (va :: vb :: vc :: vd :: ve :: vf :: vg :: cs):=Reps.front hp rfl h rfl
theorem Reps.c8 {α : Type} {R : α → List Value → Prop} {ps : List α} {cs : List Value} {p : α} {va vb vc vd ve vf vg vh : Value} (hp : R p [va,vb,vc,vd,ve,vf,vg,vh]) (h : Reps R 8 ps cs) : Reps R 8 (p :: ps) (va :: vb :: vc :: vd :: ve :: vf :: vg :: vh :: cs):=Reps.front hp rfl h rfl
theorem Reps.c9 {α : Type} {R : α → List Value → Prop} {ps : List α} {cs : List Value} {p : α} {va vb vc vd ve vf vg vh vi : Value} (hp : R p [va,vb,vc,vd,ve,vf,vg,vh,vi]) (h : Reps R 9 ps cs) : Reps R 9 (p :: ps) (va :: vb :: vc :: vd :: ve :: vf :: vg :: vh :: vi :: cs):=Reps.front hp rfl h rfl
theorem Reps.c10 {α : Type} {R : α → List Value → Prop} {ps : List α} {cs : List Value} {p : α} {va vb vc vd ve vf vg vh vi vj : Value} (hp : R p [va,vb,vc,vd,ve,vf,vg,vh,vi,vj]) (h : Reps R 10 ps cs) : Reps R 10 (p :: ps) (va :: vb :: vc :: vd :: ve :: vf :: vg :: vh :: vi :: vj :: cs):=Reps.front hp rfl h rfl
end Go.Proofs.YtjopbfidjapmbaaGreatDoorW.PrintWords
end
section
namespace Go.Proofs.YtjopbfidjapmbaaGreatDoorW.PrintLast
def up (b : Nat → Bool) (i : Nat) : Nat → Bool:=fun j=>if j = i then true else b j
theorem up_self (b : Nat → Bool) (i : Nat) : up b i i = true:=by simp [up]
theorem up_ne {b : Nat → Bool} {i j : Nat} (h : j ≠ i) : up b i j = b j:=by simp [up,h]
def lof (n : Nat) (O : List Nat) (b : Nat → Bool) : List Bool:=(List.range n).map fun j=>if O.contains j then b j else true
def putSel (a : Act) (b : Nat → Bool) : List (Nat × Tmp × Value) → Act
  | []=>a
  | e :: r=>putSel (if b e.1 = true then a.put (some e.2.1) e.2.2 else a) b r
section
variable {P : Program} {ops : Array Oper} {Q : Exit → Act → World → Prop} {md : Region.Mode} {T : Bool × List (List Nat × List Nat)} {B : List Nat} {O : List Nat} {b : Nat → Bool} {i j n : Nat}
theorem lof_length : (lof n O b).length = n:=by simp [lof]
theorem lof_get {d : Bool} (hj : j < n) : (lof n O b).getD j d = if O.contains j then b j else true:=by
  simp [lof,List.getD_eq_getElem?_getD,hj]
theorem lof_up (hi : O.contains i = true) : (lof n O b).set i true = lof n O (up b i):=by
  apply List.ext_getElem?
  intro j
  by_cases hj : j < n
  · by_cases hij : i = j
    · subst hij
      have hl : i < (lof n O b).length:=by rw [lof_length];exact hj
      rw [List.getElem?_set_self hl]
      simp only [lof,List.getElem?_map,List.getElem?_range hj,Option.map_some,hi,if_true,up_self]
    · rw [List.getElem?_set_ne hij]
      simp only [lof,List.getElem?_map,List.getElem?_range hj,Option.map_some]
      rw [up_ne (Ne.symm hij)]
  · rw [List.getElem?_eq_none (by simp [lof];omega),List.getElem?_eq_none (by simp [lof];omega)]
def StepAt (P : Program) (ops : Array Oper) (Q : Exit → Act → World → Prop) (B : List Nat) (O : List Nat) (I : (Nat → Bool) → Act → World → Prop) (i : Nat) : Prop :=
  ∀ b a w,I b a w → b i = false → (∀ j,(O.contains j && (B.getD i 0).testBit j) = true → b j = true) → (∀ d,(O.contains d && (B.getD d 0).testBit i) = true → b d = false) →
    ∃ oi,ops[i]? = some oi ∧ ∀ K : Act → World → Prop,Shut (∀ a' w',I (up b i) a' w' → K a' w') → if Region.wanted oi (yielded ops a.tmps) = true then Oper.wp P oi a w K Q else K (a.put oi.dst undef) w
theorem steps_nil {I : (Nat → Bool) → Act → World → Prop} : ∀ i ∈ ([] : List Nat),StepAt P ops Q B O I i:=fun _ h=>by cases h
theorem steps_cons {I : (Nat → Bool) → Act → World → Prop} {rs : List Nat} (h : StepAt P ops Q B O I i) (hs : ∀ j ∈ rs,StepAt P ops Q B O I j) : ∀ j ∈ i :: rs,StepAt P ops Q B O I j:=fun j hj=>by
  rcases List.mem_cons.1 hj with rfl | hj
  · exact h
  · exact hs j hj
def baseOk (T : List (List Nat × List Nat)) (O : List Nat) : Bool :=
  (List.range T.length).all (fun d=>match T[d]? with
    | some r=>(O.contains d || r.1.all fun n=>!O.contains n) && r.1.all fun n=>decide (n < d)
    | none=>false) && O.all (fun i=>decide (i < T.length)) && decide O.Nodup
theorem baseOk_row {T : List (List Nat × List Nat)} (h : baseOk T O = true) {d : Nat} {r : List Nat × List Nat} (hr : T[d]? = some r) : (O.contains d = false → ∀ n ∈ r.1,O.contains n = false) ∧ ∀ n ∈ r.1,n < d:=by
  simp only [baseOk,Bool.and_eq_true] at h
  have h1:=List.all_eq_true.1 h.1.1 d (List.mem_range.2 (List.getElem?_eq_some_iff.1 hr).1)
  rw [hr] at h1
  simp only [Bool.and_eq_true,Bool.or_eq_true,List.all_eq_true,decide_eq_true_eq] at h1
  refine ⟨fun hd n hn=>?_,h1.2⟩
  rcases h1.1 with h2 | h2
  · rw [hd] at h2;cases h2
  · simpa using h2 n hn
theorem baseOk_lt {T : List (List Nat × List Nat)} (h : baseOk T O = true) {i : Nat} (hi : i ∈ O) : i < T.length:=by
  simp only [baseOk,Bool.and_eq_true] at h
  simpa using List.all_eq_true.1 h.1.2 i hi
theorem baseOk_nodup {T : List (List Nat × List Nat)} (h : baseOk T O = true) : O.Nodup:=by
  simp only [baseOk,Bool.and_eq_true] at h
  exact of_decide_eq_true h.2
def Closed (T : List (List Nat × List Nat)) (O : List Nat) (b : Nat → Bool) : Prop:=∀ d r,T[d]? = some r → O.contains d = true → b d = true → ∀ n ∈ r.1,O.contains n = true → b n = true
theorem bits_out {T : List (List Nat × List Nat)} (hw : waitsOk T B = true) (hk : baseOk T O = true) : ∀ (m d : Nat),d ≤ m → d < T.length → O.contains d = false → ∀ j,(B.getD d 0).testBit j = true → O.contains j = false:=by
  intro m
  induction m with
  | zero =>
    intro d hd hl hO j hj
    have hd0 : d = 0:=by omega
    subst hd0
    have hr : T[0]? = some T[0]:=List.getElem?_eq_getElem hl
    have h1:=List.all_eq_true.1 hw 0 (List.mem_range.2 hl)
    rw [hr] at h1
    simp only [beq_iff_eq] at h1
    have h2 : (upM B 0 T[0].1).testBit j = true:=by rw [← h1,Nat.testBit_or,hj,Bool.true_or]
    obtain ⟨n,hn,h3⟩:=upM_bit h2
    have:=(baseOk_row hk hr).2 n hn
    omega
  | succ m ih =>
    intro d hd hl hO j hj
    have hr : T[d]? = some T[d]:=List.getElem?_eq_getElem hl
    have h1:=List.all_eq_true.1 hw d (List.mem_range.2 hl)
    rw [hr] at h1
    simp only [beq_iff_eq] at h1
    have h2 : (upM B d T[d].1).testBit j = true:=by rw [← h1,Nat.testBit_or,hj,Bool.true_or]
    obtain ⟨n,hn,h3⟩:=upM_bit h2
    have hO2:=(baseOk_row hk hr).1 hO n hn
    rcases h3 with rfl | ⟨h4,h5⟩
    · exact hO2
    · exact ih n (by omega) (by omega) hO2 j h5
theorem closed_bits {T : List (List Nat × List Nat)} (hw : waitsOk T B = true) (hk : baseOk T O = true) (hc : Closed T O b) : ∀ (m d : Nat),d ≤ m → d < T.length → O.contains d = true → b d = true → ∀ j,O.contains j = true → (B.getD d 0).testBit j = true → b j = true:=by
  intro m
  induction m with
  | zero =>
    intro d hd hl hO hb j hjO hj
    have hd0 : d = 0:=by omega
    subst hd0
    have hr : T[0]? = some T[0]:=List.getElem?_eq_getElem hl
    have h1:=List.all_eq_true.1 hw 0 (List.mem_range.2 hl)
    rw [hr] at h1
    simp only [beq_iff_eq] at h1
    have h2 : (upM B 0 T[0].1).testBit j = true:=by rw [← h1,Nat.testBit_or,hj,Bool.true_or]
    obtain ⟨n,hn,h3⟩:=upM_bit h2
    have:=(baseOk_row hk hr).2 n hn
    omega
  | succ m ih =>
    intro d hd hl hO hb j hjO hj
    have hr : T[d]? = some T[d]:=List.getElem?_eq_getElem hl
    have h1:=List.all_eq_true.1 hw d (List.mem_range.2 hl)
    rw [hr] at h1
    simp only [beq_iff_eq] at h1
    have h2 : (upM B d T[d].1).testBit j = true:=by rw [← h1,Nat.testBit_or,hj,Bool.true_or]
    obtain ⟨n,hn,h3⟩:=upM_bit h2
    rcases h3 with rfl | ⟨h4,h5⟩
    · exact hc d _ hr hO hb n hn hjO
    · cases hO2 : O.contains n with
      | true=>exact ih n (by omega) (by omega) hO2 (hc d _ hr hO hb n hn hO2) j hjO h5
      | false =>
        have:=bits_out hw hk n n (Nat.le_refl _) (by omega) hO2 j h5
        rw [hjO] at this
        cases this
theorem up_count : ∀ {O : List Nat},O.Nodup → i ∈ O → b i = false → (O.filter fun j=>!up b i j).length + 1 = (O.filter fun j=>!b j).length
  | [],_,hi,_=>by cases hi
  | x :: r,hn,hi,hb=>by
    rw [List.nodup_cons] at hn
    rcases List.mem_cons.1 hi with rfl | hi
    · have h1 : (r.filter fun j=>!up b i j) = r.filter fun j=>!b j:=by
        refine List.filter_congr (fun j hj=>?_)
        rw [up_ne (fun e=>hn.1 (by rw [← e];exact hj))]
      rw [List.filter_cons,List.filter_cons]
      simp [up_self,hb,h1]
    · have hxi : x ≠ i:=fun e=>hn.1 (e ▸ hi)
      have h1:=up_count hn.2 hi hb
      rw [List.filter_cons,List.filter_cons,up_ne hxi]
      cases hbx : b x
      · simp only [Bool.not_false,if_true,List.length_cons]
        omega
      · simpa using h1
theorem inv_all (hT : rtab md ops = T) (hw : waitsOk T.2 B = true) (hk : baseOk T.2 O = true) (I : (Nat → Bool) → Act → World → Prop) (hs : ∀ i ∈ O,StepAt P ops Q B O I i)
    (hend : ∀ b a w,(∀ j,O.contains j = true → b j = true) → I b a w → Q .normal a w) :
    ∀ (m : Nat) (b : Nat → Bool) (a : Act) (w : World),(O.filter fun j=>!b j).length = m → Closed T.2 O b → I b a w → wpAnyLast P md ops Q (fun _=>True) [] m (lof T.2.length O b).toArray a w:=by
  subst hT
  have mem_ready' : ∀ {b : Nat → Bool} {i : Nat},i ∈ Region.ready md ops (lof (rtab md ops).2.length O b).toArray → i < (rtab md ops).2.length ∧ O.contains i = true ∧ b i = false ∧ ∀ r,(rtab md ops).2[i]? = some r → ∀ n ∈ r.1,n < (rtab md ops).2.length → O.contains n = true → b n = true:=by
    intro b i hi
    rw [ready_eq] at hi
    unfold readyT at hi
    rw [List.mem_filter,List.mem_range] at hi
    obtain ⟨hl,h1⟩:=hi
    unfold readyAt at h1
    rw [Bool.and_eq_true,lof_get hl] at h1
    obtain ⟨h2,h3⟩:=h1
    have h4 : O.contains i = true:=by
      cases h : O.contains i with
      | true=>rfl
      | false=>rw [h] at h2;simp at h2
    rw [h4] at h2
    refine ⟨hl,h4,by simpa using h2,fun r hr n hn hnl hO=>?_⟩
    rw [hr] at h3
    simp only [List.all_eq_true] at h3
    have h5:=h3 n hn
    rw [lof_get hnl,hO] at h5
    simpa using h5
  intro m
  induction m with
  | zero =>
    intro b a w hm hc hI
    have hall : ∀ j,O.contains j = true → b j = true:=by
      intro j hj
      cases hb : b j with
      | true=>rfl
      | false =>
        have : j ∈ O.filter fun j=>!b j:=List.mem_filter.2 ⟨List.contains_iff_mem.1 hj,by simp [hb]⟩
        rw [List.eq_nil_of_length_eq_zero hm] at this
        cases this
    refine ⟨?_,hend b a w hall hI⟩
    refine List.eq_nil_iff_forall_not_mem.2 (fun i hi=>?_)
    obtain ⟨_,h1,h2,_⟩:=mem_ready' hi
    rw [hall i h1] at h2
    cases h2
  | succ m ih =>
    intro b a w hm hc hI
    refine ⟨fun hr=>?_,fun i hi=>?_⟩
    · exfalso
      have hex : ∃ i,O.contains i = true ∧ b i = false:=by
        cases hf : O.filter (fun j=>!b j) with
        | nil=>rw [hf] at hm;simp at hm
        | cons x r =>
          have hx : x ∈ O.filter (fun j=>!b j):=by rw [hf];exact List.mem_cons_self
          rw [List.mem_filter] at hx
          exact ⟨x,List.contains_iff_mem.2 hx.1,by simpa using hx.2⟩
      have hmin : ∀ k,(∃ i,i ≤ k ∧ O.contains i = true ∧ b i = false) → ∃ i,O.contains i = true ∧ b i = false ∧ ∀ j,j < i → O.contains j = true → b j = true:=by
        intro k
        induction k with
        | zero =>
          rintro ⟨i,hi,h1,h2⟩
          exact ⟨i,h1,h2,fun j hj=>by omega⟩
        | succ k ihk =>
          rintro ⟨i,hi,h1,h2⟩
          by_cases hlow : ∃ j,j ≤ k ∧ O.contains j = true ∧ b j = false
          · exact ihk hlow
          · refine ⟨i,h1,h2,fun j hj hO=>?_⟩
            cases hb : b j with
            | true=>rfl
            | false=>exact absurd ⟨j,by omega,hO,hb⟩ hlow
      obtain ⟨i0,h1,h2⟩:=hex
      obtain ⟨i,hO,hb,hlow⟩:=hmin i0 ⟨i0,Nat.le_refl _,h1,h2⟩
      have hl:=baseOk_lt hk (List.contains_iff_mem.1 hO)
      have hin : i ∈ Region.ready md ops (lof (rtab md ops).2.length O b).toArray:=by
        rw [ready_eq]
        unfold readyT
        rw [List.mem_filter,List.mem_range]
        refine ⟨hl,?_⟩
        unfold readyAt
        rw [lof_get hl,hO,hb]
        have hr2 : (rtab md ops).2[i]? = some (rtab md ops).2[i]:=List.getElem?_eq_getElem hl
        rw [hr2]
        simp only [if_true,Bool.not_false,Bool.true_and,List.all_eq_true]
        intro n hn
        have hni:=(baseOk_row hk hr2).2 n hn
        rw [lof_get (by omega)]
        cases hOn : O.contains n with
        | true=>simpa using hlow n hni hOn
        | false=>simp
      rw [hr] at hin
      cases hin
    · obtain ⟨hl,hO,hb,hneed⟩:=mem_ready' hi
      have hon : ∀ j,(O.contains j && (B.getD i 0).testBit j) = true → b j = true:=by
        intro j hj
        rw [Bool.and_eq_true] at hj
        have hr2 : (rtab md ops).2[i]? = some (rtab md ops).2[i]:=List.getElem?_eq_getElem hl
        have h1:=List.all_eq_true.1 hw i (List.mem_range.2 hl)
        rw [hr2] at h1
        simp only [beq_iff_eq] at h1
        have h2 : (upM B i (rtab md ops).2[i].1).testBit j = true:=by rw [← h1,Nat.testBit_or,hj.2,Bool.true_or]
        obtain ⟨n,hn,h3⟩:=upM_bit h2
        have hni:=(baseOk_row hk hr2).2 n hn
        rcases h3 with rfl | ⟨h4,h5⟩
        · exact hneed _ hr2 n hn (by omega) hj.1
        · cases hO2 : O.contains n with
          | true=>exact closed_bits hw hk hc n n (Nat.le_refl _) (by omega) hO2 (hneed _ hr2 n hn (by omega) hO2) j hj.1 h5
          | false =>
            have:=bits_out hw hk n n (Nat.le_refl _) (by omega) hO2 j h5
            rw [hj.1] at this
            cases this
      have hoff : ∀ d,(O.contains d && (B.getD d 0).testBit i) = true → b d = false:=by
        intro d hd
        rw [Bool.and_eq_true] at hd
        cases hbd : b d with
        | false=>rfl
        | true =>
          have hdl:=baseOk_lt hk (List.contains_iff_mem.1 hd.1)
          have:=closed_bits hw hk hc d d (Nat.le_refl _) hdl hd.1 hbd i hO hd.2
          rw [hb] at this
          cases this
      obtain ⟨oi,hoi,hK⟩:=hs i (List.contains_iff_mem.1 hO) b a w hI hb hon hoff
      refine wpOp_step hoi (fun K' hK'=>hK K' (fun a' w' hI'=>hK' a' w' ⟨fun _ _=>trivial,?_⟩))
      have hset : (lof (rtab md ops).2.length O b).toArray.setIfInBounds i true = (lof (rtab md ops).2.length O (up b i)).toArray:=by
        apply Array.ext'
        rw [Array.toList_setIfInBounds]
        exact lof_up hO
      rw [hset]
      refine ih (up b i) a' w' ?_ ?_ hI'
      · have:=up_count (baseOk_nodup hk) (List.contains_iff_mem.1 hO) hb
        omega
      · intro d r hr hOd hbd n hn hOn
        by_cases hni : n = i
        · rw [hni,up_self]
        · rw [up_ne hni]
          by_cases hdi : d = i
          · subst hdi
            exact hneed r hr n hn (by have:=(baseOk_row hk hr).2 n hn;omega) hOn
          · rw [up_ne hdi] at hbd
            exact hc d r hr hOd hbd n hn hOn
theorem putSel_off {b : Nat → Bool} {t : Tmp} : ∀ {L : List (Nat × Tmp × Value)} {a : Act},(L.all fun e=>!(e.2.1 == t)) = true → (putSel a b L).tmps[t]? = a.tmps[t]?
  | [],_,_=>rfl
  | e :: r,a,h=>by
    rw [List.all_cons,Bool.and_eq_true] at h
    have he : e.2.1 ≠ t:=by simpa using h.1
    unfold putSel
    by_cases hb : b e.1 = true
    · rw [if_pos hb,putSel_off h.2]
      simp [Act.put,Array.getElem?_setIfInBounds_ne he]
    · rw [if_neg hb]
      exact putSel_off h.2
theorem putSel_on {b : Nat → Bool} {e : Nat × Tmp × Value} : ∀ {L : List (Nat × Tmp × Value)} {a : Act} (k : Nat),L[k]? = some e → ((L.drop (k + 1)).all fun x=>!(x.2.1 == e.2.1)) = true → b e.1 = true → Nat.ble (e.2.1 + 1) a.tmps.size = true → (putSel a b L).tmps[e.2.1]? = some e.2.2
  | [],_,_,h,_,_,_=>by cases h
  | x :: r,a,0,h,hd,hb,ht=>by
    simp only [List.getElem?_cons_zero,Option.some.injEq] at h
    subst h
    unfold putSel
    rw [if_pos hb,putSel_off (by simpa using hd)]
    have ht2 : x.2.1 < a.tmps.size:=Nat.le_of_ble_eq_true ht
    simp [Act.put,ht2]
  | x :: r,a,k + 1,h,hd,hb,ht=>by
    unfold putSel
    refine putSel_on k (by simpa using h) (by simpa using hd) hb ?_
    by_cases hx : b x.1 = true
    · rw [if_pos hx]
      simpa [Act.put] using ht
    · rw [if_neg hx]
      exact ht
theorem put_comm {a : Act} {s t : Tmp} {u v : Value} (h : s ≠ t) : (a.put (some s) u).put (some t) v = (a.put (some t) v).put (some s) u:=by
  simp only [Act.put]
  rw [Array.setIfInBounds_comm _ _ h]
theorem putSel_put {b : Nat → Bool} {t : Tmp} {v : Value} : ∀ {L : List (Nat × Tmp × Value)} {a : Act},(L.all fun e=>!(e.2.1 == t)) = true → (putSel a b L).put (some t) v = putSel (a.put (some t) v) b L
  | [],_,_=>rfl
  | e :: r,a,h=>by
    rw [List.all_cons,Bool.and_eq_true] at h
    have he : e.2.1 ≠ t:=by simpa using h.1
    unfold putSel
    by_cases hb : b e.1 = true
    · rw [if_pos hb,if_pos hb,putSel_put h.2,put_comm he]
    · rw [if_neg hb,if_neg hb]
      exact putSel_put h.2
theorem putSel_same {b : Nat → Bool} {i : Nat} : ∀ {L : List (Nat × Tmp × Value)} {a : Act},(L.all fun e=>!(e.1 == i)) = true → putSel a (up b i) L = putSel a b L
  | [],_,_=>rfl
  | e :: r,a,h=>by
    rw [List.all_cons,Bool.and_eq_true] at h
    have he : e.1 ≠ i:=by simpa using h.1
    unfold putSel
    rw [up_ne he]
    exact putSel_same h.2
theorem putSel_up {b : Nat → Bool} {i : Nat} {t : Tmp} {v0 v : Value} : ∀ {L1 L2 : List (Nat × Tmp × Value)} {a : Act},b i = false → ((L1 ++ L2).all fun e=>!(e.1 == i) && !(e.2.1 == t)) = true →
    (putSel a b (L1 ++ (i,t,v0) :: L2)).put (some t) v = putSel a (up b i) (L1 ++ (i,t,v) :: L2)
  | [],L2,a,hb,h=>by
    simp only [List.nil_append] at h ⊢
    have h1 : (L2.all fun e=>!(e.1 == i)) = true:=List.all_eq_true.2 (fun e he=>by have:=List.all_eq_true.1 h e he;simp only [Bool.and_eq_true] at this;exact this.1)
    have h2 : (L2.all fun e=>!(e.2.1 == t)) = true:=List.all_eq_true.2 (fun e he=>by have:=List.all_eq_true.1 h e he;simp only [Bool.and_eq_true] at this;exact this.2)
    unfold putSel
    rw [if_neg (by rw [hb];decide),if_pos (up_self b i),putSel_put h2,putSel_same h1]
  | e :: r,L2,a,hb,h=>by
    simp only [List.cons_append,List.all_cons,Bool.and_eq_true] at h
    have he : e.1 ≠ i:=by simpa using h.1.1
    simp only [List.cons_append]
    unfold putSel
    rw [up_ne he]
    exact putSel_up hb h.2
theorem putSel_upk {b : Nat → Bool} {i : Nat} {t : Tmp} {v0 v : Value} {a : Act} {L L' : List (Nat × Tmp × Value)} (k : Nat) (hb : b i = false) (hL : L[k]? = some (i,t,v0)) (hL' : L.set k (i,t,v) = L') (hd : ((L.take k ++ L.drop (k + 1)).all fun e=>!(e.1 == i) && !(e.2.1 == t)) = true) :
    (putSel a b L).put (some t) v = putSel a (up b i) L':=by
  have hk:=(List.getElem?_eq_some_iff.1 hL).1
  have h1 : L = L.take k ++ (i,t,v0) :: L.drop (k + 1):=by
    have h2 : L[k] = (i,t,v0):=(List.getElem?_eq_some_iff.1 hL).2
    rw [← h2,List.getElem_cons_drop,List.take_append_drop]
  have h3 : L' = L.take k ++ (i,t,v) :: L.drop (k + 1):=by rw [← hL',List.set_eq_take_append_cons_drop,if_pos hk]
  rw [h3]
  conv=>lhs;rw [h1]
  exact putSel_up hb hd
theorem putSel_none {b : Nat → Bool} {i : Nat} {L : List (Nat × Tmp × Value)} {a : Act} {v : Value} (h : (L.all fun e=>!(e.1 == i)) = true) : (putSel a b L).put none v = putSel a (up b i) L:=(putSel_same h).symm
theorem inv_ {l : Array Bool} {fuel : Nat} {a : Act} {w : World} (O : List Nat) (I : (Nat → Bool) → Act → World → Prop) (hT : rtab md ops = T) (hw : waitsOk T.2 B = true) (hk : baseOk T.2 O = true)
    (hl : (lof T.2.length O (fun _=>false) == l.toList && O.length == fuel) = true) (h0 : I (fun _=>false) a w) (hs : ∀ i ∈ O,StepAt P ops Q B O I i)
    (hend : ∀ b a w,(∀ j,O.contains j = true → b j = true) → I b a w → Q .normal a w) : wpAnyLast P md ops Q (fun _=>True) [] fuel l a w:=by
  rw [Bool.and_eq_true,beq_iff_eq,beq_iff_eq] at hl
  have h1:=inv_all hT hw hk I hs hend fuel (fun _=>false) a w (by rw [← hl.2];simp) (fun d r _ _ hb=>by cases hb) h0
  have h2 : (lof T.2.length O (fun _=>false)).toArray = l:=by apply Array.ext';exact hl.1
  rw [h2] at h1
  exact h1
theorem inv_at {l : Array Bool} {fuel : Nat} {a : Act} {w : World} (O : List Nat) (I : Act → (Nat → Bool) → Act → World → Prop) (hT : rtab md ops = T) (hw : waitsOk T.2 B = true) (hk : baseOk T.2 O = true)
    (hl : (lof T.2.length O (fun _=>false) == l.toList && O.length == fuel) = true) (h0 : I a (fun _=>false) a w) (hs : ∀ i ∈ O,StepAt P ops Q B O (I a) i)
    (hend : ∀ b a' w,(∀ j,O.contains j = true → b j = true) → I a b a' w → Q .normal a' w) : wpAnyLast P md ops Q (fun _=>True) [] fuel l a w:=inv_ O (I a) hT hw hk hl h0 hs hend
end
end Go.Proofs.YtjopbfidjapmbaaGreatDoorW.PrintLast
end
section
namespace Go.Proofs.YtjopbfidjapmbaaGreatDoorW.PrintWords
open Go.RowKit
section
variable {P : Program} {ops : Array Oper} {rest : List Oper} {o : Oper} {a : Act} {Q : Exit → Act → World → Prop} {W : World}
theorem gate_guard (hw : Region.wanted o (yielded ops a.tmps) = true) (h : wpList P ops Q ({ o with guard:=none } :: rest) a W) : wpList P ops Q (o :: rest) a W:=by
  have h1 : Region.wanted { o with guard:=none } (yielded ops a.tmps) = true:=rfl
  unfold wpList at h ⊢
  rw [if_pos h1] at h
  rw [if_pos hw]
  exact h
end
end Go.Proofs.YtjopbfidjapmbaaGreatDoorW.PrintWords
end
section
namespace Go.Proofs.YtjopbfidjapmbaaGreatDoor.Q
open Go.RowKit Go.Proofs.YtjopbfidjapmbaaGreatDoorW.PrintWords Go.Proofs.YtjopbfidjapmbaaGreatDoorW.PrintLast Go.Proofs.YtjopbfidjapmbaaGreatDoorW.PrintMore
set_option linter.unusedVariables false
theorem R_append_at {P : Program} {ops : Array Oper} {rest : List Oper} {o : Oper} {a : Act} {Q : Exit → Act → World → Prop} {α : Type} (d : Kd α) {w0 W : World} (base : Nat) (H : Nat) (hH : W.heap.size = H) (hgd : o.guard = none) (s x : Operand) (t e : TypeId) (z : Value) (bytes : Nat)
    (ho : o.op = .call { callee:=.builtin .append,args:=#[s,x],argTypes:=#[t,t] })
    (ht : P.underlying t = some (.slice e)) (hinfo : (P.info? e).map (fun i=>(i.zero,i.size,i.bytes)) = some (some z,d.sz,bytes)) (hz : z.cells.size = d.sz) (hs0 : 0 < d.sz) (hb0 : 0 < bytes)
    (v : Value) (xs : List α) (p : α) (cs : List Value) (ok okp : Nat → Prop) (hs : a.eval s = v) (hx : a.eval x = .slice (some ⟨H,0,none⟩) 1 1) (hp : d.M W base okp p cs) (hokp : ∀ k,okp k → ok k ∧ some k ≠ v.ownBlock) (hfresh : ∀ k,W.heap.size ≤ k → ok k)
    (HO : d.R e W base ok v xs) (HB : Below base w0 W) (hbase : base ≤ W.heap.size) (hl : (xs.length + 1) * bytes ≤ 140737488355328)
    (h : ∀ v1 w1,d.R e w1 base ok v1 (xs ++ [p]) → Below base w0 w1 → W.grownBy w1 v.ownBlock → (v1.ownBlock = v.ownBlock ∨ ∃ b,v1.ownBlock = some b ∧ W.heap.size ≤ b) → wpList P ops Q rest (a.put o.dst v1) w1) :
    wpList P ops Q (o :: rest) a (W.alloc (.cells cs.toArray e)):=by
  subst hH
  exact Kd.R_append d base hgd s x t e z bytes ho ht hinfo hz hs0 hb0 v xs p cs ok okp hs hx hp hokp hfresh HO HB hbase hl h
theorem R_slice3 {α : Type} {d : Kd α} {e : Nat} {w : World} {base : Nat} {ok : Nat → Prop} {v : Value} {xs : List α} (h : Kd.R d e w base ok v xs) : ∃ A n c,v = .slice A n c:=by
  obtain ⟨A,c,h⟩:=Kd.R_slice h
  exact ⟨A,_,c,h⟩
theorem R_form_n {α : Type} {d : Kd α} {e : Nat} {w : World} {base : Nat} {ok : Nat → Prop} {v : Value} {xs : List α} (h : Kd.R d e w base ok v xs) {n : Nat} (hn : xs.length = n) (hp : 0 < n) : ∃ g c,v = .slice (some ⟨g,0,none⟩) n c:=by
  subst hn
  obtain ⟨g,c,h,_⟩:=Kd.R_form h hp
  exact ⟨g,c,h⟩
theorem box1 (w : World) (a : Obj) : (w.alloc a).heap[w.heap.size]? = some a ∧ Below w.heap.size w (w.alloc a):=⟨blk_new w a,below_alloc (Below.refl _ _) a⟩
theorem box2 (w : World) (a b : Obj) : ((w.alloc a).alloc b).heap[w.heap.size]? = some a ∧ ((w.alloc a).alloc b).heap[w.heap.size + 1]? = some b ∧ Below w.heap.size w ((w.alloc a).alloc b) :=
  ⟨blk_alloc (blk_new w a) b,by have:=blk_new (w.alloc a) b;simpa using this,below_alloc (below_alloc (Below.refl _ _) a) b⟩
theorem box3 (w : World) (a b c : Obj) : (((w.alloc a).alloc b).alloc c).heap[w.heap.size]? = some a ∧ (((w.alloc a).alloc b).alloc c).heap[w.heap.size + 1]? = some b ∧ (((w.alloc a).alloc b).alloc c).heap[w.heap.size + 1 + 1]? = some c ∧ Below w.heap.size w (((w.alloc a).alloc b).alloc c) :=
  ⟨blk_alloc (box2 w a b).1 c,blk_alloc (box2 w a b).2.1 c,by have:=blk_new ((w.alloc a).alloc b) c;simpa using this,below_alloc (box2 w a b).2.2 c⟩
theorem cells8 {w : World} {b t : Nat} {v0 v1 v2 v3 v4 v5 v6 v7 : Value} (h : w.heap[b]? = some (.cells #[v0,v1,v2,v3,v4,v5,v6,v7] t (0,0))) : w.cell? ⟨b,0,none⟩ = some v0 ∧ w.cell? ⟨b,1,none⟩ = some v1 ∧ w.cell? ⟨b,2,none⟩ = some v2 ∧ w.cell? ⟨b,3,none⟩ = some v3 ∧ w.cell? ⟨b,4,none⟩ = some v4 ∧ w.cell? ⟨b,5,none⟩ = some v5 ∧ w.cell? ⟨b,6,none⟩ = some v6 ∧ w.cell? ⟨b,7,none⟩ = some v7 :=
  ⟨(blk_cell h 0).trans rfl,(blk_cell h 1).trans rfl,(blk_cell h 2).trans rfl,(blk_cell h 3).trans rfl,(blk_cell h 4).trans rfl,(blk_cell h 5).trans rfl,(blk_cell h 6).trans rfl,(blk_cell h 7).trans rfl⟩
theorem cells4 {w : World} {b t : Nat} {v0 v1 v2 v3 : Value} (h : w.heap[b]? = some (.cells #[v0,v1,v2,v3] t (0,0))) : w.cell? ⟨b,0,none⟩ = some v0 ∧ w.cell? ⟨b,1,none⟩ = some v1 ∧ w.cell? ⟨b,2,none⟩ = some v2 ∧ w.cell? ⟨b,3,none⟩ = some v3 :=
  ⟨(blk_cell h 0).trans rfl,(blk_cell h 1).trans rfl,(blk_cell h 2).trans rfl,(blk_cell h 3).trans rfl⟩
theorem cells3 {w : World} {b t : Nat} {v0 v1 v2 : Value} (h : w.heap[b]? = some (.cells #[v0,v1,v2] t (0,0))) : w.cell? ⟨b,0,none⟩ = some v0 ∧ w.cell? ⟨b,1,none⟩ = some v1 ∧ w.cell? ⟨b,2,none⟩ = some v2 :=
  ⟨(blk_cell h 0).trans rfl,(blk_cell h 1).trans rfl,(blk_cell h 2).trans rfl⟩
theorem cells2 {w : World} {b t : Nat} {v0 v1 : Value} (h : w.heap[b]? = some (.cells #[v0,v1] t (0,0))) : w.cell? ⟨b,0,none⟩ = some v0 ∧ w.cell? ⟨b,1,none⟩ = some v1 :=
  ⟨(blk_cell h 0).trans rfl,(blk_cell h 1).trans rfl⟩
def put8 (w : World) (g : Nat) (v0 v1 v2 v3 v4 v5 v6 v7 : Value) : World :=
  (((((((w.setCell ⟨g,0,none⟩ v0).setCell ⟨g,1,none⟩ v1).setCell ⟨g,2,none⟩ v2).setCell ⟨g,3,none⟩ v3).setCell ⟨g,4,none⟩ v4).setCell ⟨g,5,none⟩ v5).setCell ⟨g,6,none⟩ v6).setCell ⟨g,7,none⟩ v7
theorem put8_facts {w : World} {g t : Nat} {c0 c1 c2 c3 c4 c5 c6 c7 : Value} (h : w.heap[g]? = some (.cells #[c0,c1,c2,c3,c4,c5,c6,c7] t (0,0))) (v0 v1 v2 v3 v4 v5 v6 v7 : Value) :
    (put8 w g v0 v1 v2 v3 v4 v5 v6 v7).heap[g]? = some (.cells #[v0,v1,v2,v3,v4,v5,v6,v7] t (0,0)) ∧ (∀ k,k ≠ g → (put8 w g v0 v1 v2 v3 v4 v5 v6 v7).heap[k]? = w.heap[k]?) ∧ ∀ B w0,Below B w0 w → B ≤ g → Below B w0 (put8 w g v0 v1 v2 v3 v4 v5 v6 v7):=by
  refine ⟨?_,fun k hk=>?_,fun B w0 hb hg=>?_⟩
  · have h1:=blk_put (cs':=#[v0,c1,c2,c3,c4,c5,c6,c7]) h 0 v0 rfl
    have h2:=blk_put (cs':=#[v0,v1,c2,c3,c4,c5,c6,c7]) h1 1 v1 rfl
    have h3:=blk_put (cs':=#[v0,v1,v2,c3,c4,c5,c6,c7]) h2 2 v2 rfl
    have h4:=blk_put (cs':=#[v0,v1,v2,v3,c4,c5,c6,c7]) h3 3 v3 rfl
    have h5:=blk_put (cs':=#[v0,v1,v2,v3,v4,c5,c6,c7]) h4 4 v4 rfl
    have h6:=blk_put (cs':=#[v0,v1,v2,v3,v4,v5,c6,c7]) h5 5 v5 rfl
    have h7:=blk_put (cs':=#[v0,v1,v2,v3,v4,v5,v6,c7]) h6 6 v6 rfl
    have h8:=blk_put (cs':=#[v0,v1,v2,v3,v4,v5,v6,v7]) h7 7 v7 rfl
    exact h8
  · unfold put8
    rw [Below.heap_setCell _ _ _ k hk,Below.heap_setCell _ _ _ k hk,Below.heap_setCell _ _ _ k hk,Below.heap_setCell _ _ _ k hk,Below.heap_setCell _ _ _ k hk,Below.heap_setCell _ _ _ k hk,Below.heap_setCell _ _ _ k hk,Below.heap_setCell _ _ _ k hk]
  · exact (((((((hb.setCell hg _).setCell hg _).setCell hg _).setCell hg _).setCell hg _).setCell hg _).setCell hg _).setCell hg _
theorem R_of_heap {α : Type} {d : Kd α} {e base : Nat} {w w' : World} {v : Value} {xs : List α} {g t : Nat} {cells : Array Value} (h : Kd.R d e w base (fun _=>True) v xs) (hb : w.heap[g]? = some (.cells cells t (0,0))) (ht : ∀ q,q ∈ e :: d.E → q ≠ t) (hk : ∀ k,k ≠ g → w'.heap[k]? = w.heap[k]?) : Kd.R d e w' base (fun _=>True) v xs :=
  Kd.R_mono (Kd.R_move (Kd.R_types h hb ht) (fun k hk2=>hk k hk2.2)) (fun _ _=>trivial)
theorem str_info : (Tryz.prog.info? 9).map (fun i=>(i.zero,i.size,i.bytes)) = some (some (.string ⟨#[]⟩),1,16):=by kernel_rfl
theorem bool_info : (Tryz.prog.info? 4).map (fun i=>(i.zero,i.size,i.bytes)) = some (some (.bool false),1,1):=by kernel_rfl
end Go.Proofs.YtjopbfidjapmbaaGreatDoor.Q
end
section
namespace Go.Proofs.YtjopbfidjapmbaaGreatDoor.Q
open Go.RowKit Go.Proofs.YtjopbfidjapmbaaGreatDoorW.PrintWords Go.Proofs.YtjopbfidjapmbaaGreatDoorW.PrintLast Go.Proofs.YtjopbfidjapmbaaGreatDoorW.PrintMore
attribute [local go_sem] max2_int min2_int max_two min_two max_three min_three max_four min_four
set_option linter.unusedVariables false
set_option linter.unusedSimpArgs false
def errW : Option Int → Value
 | none=>.nilIface
 | some c=>.iface 0 (.int .i64 c)
theorem errW_none : errW none = .nilIface:=rfl
theorem errW_some (c : Int) : errW (some c) = .iface 0 (.int .i64 c):=rfl
structure S137 where
 f0 : Int
 f1 : Bool
 f2 : (List Int)
def z137 : S137:=⟨(0 : Int),false,([] : List Int)⟩
def k137 : Kd S137:=Kd.iso (Kd.pair (Kd.int .i64) (Kd.pair Kd.bool (Kd.slice 3 (Kd.int .i64)))) (fun x : S137=>(x.f0,x.f1,x.f2))
theorem k137_openM {w : World} {base : Nat} {ok : Nat → Prop} {x : S137} {cs : List Value} (h : k137.M w base ok x cs) : ∃ v2,cs = [.int .i64 x.f0,.bool x.f1,v2] ∧ (Kd.int .i64).R 3 w base ok v2 x.f2:=by
 obtain ⟨_,_,rfl,rfl,⟨_,_,rfl,rfl,⟨v2,rfl,g2⟩⟩⟩:=h
 exact ⟨v2,rfl,g2⟩
theorem k137_mkM (w : World) (base : Nat) (ok : Nat → Prop) (x : S137) {v2 : Value} (g2 : (Kd.int .i64).R 3 w base ok v2 x.f2) : k137.M w base ok x [.int .i64 x.f0,.bool x.f1,v2]:=⟨[.int .i64 x.f0],[.bool x.f1,v2],rfl,rfl,⟨[.bool x.f1],[v2],rfl,rfl,⟨v2,rfl,g2⟩⟩⟩
def rd_T137 (xs : List S137) (i : Int) : S137:=xs.getD i.toNat z137
structure S150 where
 f0 : Int
 f1 : Int
def z150 : S150:=⟨(0 : Int),(0 : Int)⟩
def k150 : Kd S150:=Kd.iso (Kd.pair (Kd.int .i64) (Kd.int .i64)) (fun x : S150=>(x.f0,x.f1))
theorem k150_open {w : World} {x : S150} {cs : List Value} (h : k150.K w x cs) : cs = [.int .i64 x.f0,.int .i64 x.f1]:=by
 obtain ⟨_,_,rfl,rfl,rfl⟩:=h
 exact rfl
theorem k150_mkM (w : World) (base : Nat) (ok : Nat → Prop) (x : S150)  : k150.M w base ok x [.int .i64 x.f0,.int .i64 x.f1]:=⟨[.int .i64 x.f0],[.int .i64 x.f1],rfl,rfl,rfl⟩
def rd_T150 (xs : List S150) (i : Int) : S150:=xs.getD i.toNat z150
theorem at_T150 {w : World} {A : Option Addr} {n : Nat} {xs : List S150} (h : Kd.C k150 w A n xs) (i : Int) (h0 : 0 ≤ i) (h1 : i < n) : ∃ ad ,A = some ad ∧ w.cell? (ad.add (i.toNat * 2)) = some (.int .i64 (rd_T150 xs i).f0) ∧ w.cell? ⟨(ad.add (i.toNat * 2)).block,(ad.add (i.toNat * 2)).off + 1,none⟩ = some (.int .i64 (rd_T150 xs i).f1):=by
 obtain ⟨ad,c,e,_,hK,hc0⟩:=Kd.C_get h z150 i h0 h1
 have hc : ∀ j u,c[j]? = some u → w.cell? (ad.add (i.toNat * 2 + j)) = some u:=hc0
 obtain rfl:=k150_open hK
 exact ⟨ad,e,hc 0 _ rfl,by rw [← add_field _ _ 1 (by omega)];exact hc 1 _ rfl⟩
structure S35 where
 f0 : Int
 f1 : Int
 f2 : ByteArray
def z35 : S35:=⟨(0 : Int),(0 : Int),(⟨#[]⟩ : ByteArray)⟩
def k35 : Kd S35:=Kd.iso (Kd.pair (Kd.int .i64) (Kd.pair (Kd.int .i64) Kd.string)) (fun x : S35=>(x.f0,x.f1,x.f2))
theorem k35_open {w : World} {x : S35} {cs : List Value} (h : k35.K w x cs) : cs = [.int .i64 x.f0,.int .i64 x.f1,.string x.f2]:=by
 obtain ⟨_,_,rfl,rfl,⟨_,_,rfl,rfl,rfl⟩⟩:=h
 exact rfl
theorem k35_mk (w : World) (x : S35)  : k35.K w x [.int .i64 x.f0,.int .i64 x.f1,.string x.f2]:=⟨[.int .i64 x.f0],[.int .i64 x.f1,.string x.f2],rfl,rfl,⟨[.int .i64 x.f1],[.string x.f2],rfl,rfl,rfl⟩⟩
theorem k35_mkM (w : World) (base : Nat) (ok : Nat → Prop) (x : S35)  : k35.M w base ok x [.int .i64 x.f0,.int .i64 x.f1,.string x.f2]:=⟨[.int .i64 x.f0],[.int .i64 x.f1,.string x.f2],rfl,rfl,⟨[.int .i64 x.f1],[.string x.f2],rfl,rfl,rfl⟩⟩
def rd_T35 (xs : List S35) (i : Int) : S35:=xs.getD i.toNat z35
theorem at_T35 {w : World} {A : Option Addr} {n : Nat} {xs : List S35} (h : Kd.C k35 w A n xs) (i : Int) (h0 : 0 ≤ i) (h1 : i < n) : ∃ ad ,A = some ad ∧ w.cell? (ad.add (i.toNat * 3)) = some (.int .i64 (rd_T35 xs i).f0) ∧ w.cell? ⟨(ad.add (i.toNat * 3)).block,(ad.add (i.toNat * 3)).off + 1,none⟩ = some (.int .i64 (rd_T35 xs i).f1) ∧ w.cell? ⟨(ad.add (i.toNat * 3)).block,(ad.add (i.toNat * 3)).off + 2,none⟩ = some (.string (rd_T35 xs i).f2):=by
 obtain ⟨ad,c,e,_,hK,hc0⟩:=Kd.C_get h z35 i h0 h1
 have hc : ∀ j u,c[j]? = some u → w.cell? (ad.add (i.toNat * 3 + j)) = some u:=hc0
 obtain rfl:=k35_open hK
 exact ⟨ad,e,hc 0 _ rfl,by rw [← add_field _ _ 1 (by omega)];exact hc 1 _ rfl,by rw [← add_field _ _ 2 (by omega)];exact hc 2 _ rfl⟩
end Go.Proofs.YtjopbfidjapmbaaGreatDoor.Q
end
section
namespace Go.Proofs.YtjopbfidjapmbaaGreatDoor.Q
open Go.RowKit Go.Proofs.YtjopbfidjapmbaaGreatDoorW.PrintWords Go.Proofs.YtjopbfidjapmbaaGreatDoorW.PrintLast Go.Proofs.YtjopbfidjapmbaaGreatDoorW.PrintMore
attribute [local go_sem] max2_int min2_int max_two min_two max_three min_three max_four min_four
set_option linter.unusedVariables false
set_option linter.unusedSimpArgs false
open Go.Proofs.YtjopbfidjapmbaaGreatDoorS
theorem slices_Clone_string_string_info : (Tryz.prog.info? 9).map (fun i=>(i.zero,i.size,i.bytes)) = some (some (.string ⟨#[]⟩),1,16):=by kernel_rfl
def slices_Clone_string_string.f (l0 : List ByteArray) : Option (List ByteArray):=if l0.length < 8796093022208 then some l0 else none
set_option maxHeartbeats 8000000 in
set_option maxRecDepth 100000 in
theorem slices_Clone_string_string.calls (A0 : Option Addr) (c0 : Nat) (l0 : List ByteArray) (r : List ByteArray) (w : World) (hr0 : Kd.C Kd.string w A0 l0.length l0) (hc0 : l0.length ≤ c0) (h : slices_Clone_string_string.f l0 = some r) :
  Calls Tryz.prog 38 #[.slice A0 l0.length c0] w fun e w'=>∃ v0_ : Value,e = .returned (v0_) ∧ Kd.R Kd.string 9 w' w.heap.size (fun _=>True) v0_ r ∧ Below w.heap.size w w':=by
 obtain ⟨hl,rfl⟩:=guard_some h
 clear h
 cases A0 with
 | none =>
  have h0 : l0 = []:=by
   cases l0 with
   | nil=>rfl
   | cons x l=>obtain ⟨ad,e,_⟩:=hr0.2.2 (by simp);cases e
  subst h0
  have hnil:=fun (w : World) (e : TypeId) (a : Option Addr) (l c : Nat) (h : Tryz.prog.underlying 40 = some (.slice e))=>Lib.run_eql_slice_nil w 40 e a l c 0 0 h
  replace hnil:=fun (w : World) (a : Option Addr) (l c : Nat)=>hnil w _ a l c Tryz.underlying40
  go_enter Tryz.func38,Tryz.ntmps38
  go_wp2
  go_ret
  exact ⟨_,rfl,Kd.R_nil _ _ _ _ _,Below.refl _ _⟩
 | some ad =>
  have hnil:=fun (w : World) (e : TypeId) (a : Option Addr) (l c : Nat) (h : Tryz.prog.underlying 40 = some (.slice e))=>Lib.run_eql_slice_nil w 40 e a l c 0 0 h
  replace hnil:=fun (w : World) (a : Option Addr) (l c : Nat)=>hnil w _ a l c Tryz.underlying40
  have HR0:=Aside0.mk hr0
  clear hr0
  have HB:=Aside0.mk (Below.refl w.heap.size w)
  obtain ⟨y,hy⟩ : ∃ y_ : List ByteArray,y_ = (([] : List ByteArray)):=⟨_,rfl⟩
  have Ny:=Aside0.mk hy
  have hyl : y.length + l0.length < 8796093022208:=by rw [hy];simpa using hl
  have HL:=Aside0.mk hyl
  clear hyl hy hl
  go_enter Tryz.func38,Tryz.ntmps38
  go_wp2_with (first | ((with_reducible refine gate_dst (N:=5) rfl ?_);refine Kd.R_lit Kd.string _ 9 ?hg (N:=5) ?hd (xs:=([] : List ByteArray)) (inner:=[]) (ok:=fun _=>True) (okp:=fun _=>True) ?hr ?hp (fun _ hk=>hk) trivial (Below.refl _ _) (Nat.le_refl _) (by simp) ?_;(case hd=>rfl);(case hg=>rfl);(case hr=>first | (go_simp;done) | (go_simp;rfl));(case hp=>exact (Reps.none _ _));intro v1 w3 ho4 hb hg_ hnew_;clear hg_ hnew_;rw [← Ny.out] at ho4;have HO:=Aside0.mk ho4;have HB2:=Aside0.mk hb;clear hb ho4) | ((with_reducible refine gate_builtin (b:=.append) (xs:=#[.tmp 5,.tmp 6]) rfl ?_);at_builtin;refine Kd.R_append_rows Kd.string (w0:=w) w.heap.size rfl (.tmp 5) (.tmp 6) 40 9 (.string ⟨#[]⟩) 16 rfl Tryz.underlying40 slices_Clone_string_string_info rfl (by decide) (by omega) v1 y l0 _ _ _ (fun _=>True) (fun _=>False) rfl rfl ?aO ?aR (fun _ _ h=>h) (fun _ h=>h.elim) ?aF ?aB ?aS ?aL ?_;(case aR=>exact Kd.C_below HR0.out HB2.out);(case aB=>exact HB2.out);(case aF=>exact (fun _ _=>trivial));(case aO=>exact HO.out);(case aS=>exact HB2.out.size);(case aL=>have:=HL.out;omega);intro v2 w5 ho hb hg hat;have HB3:=Aside0.mk hb;have HO3:=Aside0.mk ho;clear hb hg hat ho))
  go_ret
  refine ⟨_,rfl,?_,HB3.out⟩
  have:=HO3.out
  rw [Ny.out,List.nil_append] at this
  exact this
end Go.Proofs.YtjopbfidjapmbaaGreatDoor.Q
end
section
namespace Go.Proofs.YtjopbfidjapmbaaGreatDoor.Q
open Go.RowKit Go.Proofs.YtjopbfidjapmbaaGreatDoorW.PrintWords Go.Proofs.YtjopbfidjapmbaaGreatDoorW.PrintLast Go.Proofs.YtjopbfidjapmbaaGreatDoorW.PrintMore
attribute [local go_sem] max2_int min2_int max_two min_two max_three min_three max_four min_four
set_option linter.unusedVariables false
set_option linter.unusedSimpArgs false
def grid_side.f (a0 : Int) : Option (Bool):=if 1 ≤ a0 then (some (decide (a0 ≤ 16))) else (some false)
set_option maxHeartbeats 8000000 in
set_option maxRecDepth 100000 in
theorem grid_side.calls (a0 : Int) (r : Bool) (w : World) (h : grid_side.f a0 = some r) :
  Calls Tryz.prog 81 #[.int .i64 a0] w fun e w'=>e = .returned (.bool r) ∧ Drawn0 w w':=by
 have H : (if 1 ≤ a0 then (some (decide (a0 ≤ 16))) else (some false)) = some r:=h
 clear h
 by_cases c2 : 1 ≤ a0
 ·rw [if_pos c2] at H
  have c2b0 : decide (1 ≤ a0) = true:=decide_eq_true c2
  clear c2
  obtain rfl:=Option.some.inj H
  go_enter Tryz.func81,Tryz.ntmps81
  go_wp2
  go_ret
  exact ⟨by first | rfl | (simp;done) | (simp [*];done),by repeat (first | exact Drawn0.refl _ | apply Drawn0.step)⟩
 ·rw [if_neg c2] at H
  have c2b0 : decide (1 ≤ a0) = false:=decide_eq_false c2
  clear c2
  obtain rfl:=Option.some.inj H
  go_enter Tryz.func81,Tryz.ntmps81
  go_wp2
  go_ret
  exact ⟨by first | rfl | (simp;done) | (simp [*];done),by repeat (first | exact Drawn0.refl _ | apply Drawn0.step)⟩
end Go.Proofs.YtjopbfidjapmbaaGreatDoor.Q
end
