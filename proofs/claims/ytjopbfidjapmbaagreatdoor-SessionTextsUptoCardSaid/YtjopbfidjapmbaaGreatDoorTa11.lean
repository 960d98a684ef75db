/- PART 11 OF A PROOF: Lean functions, and that the program computes them; written by hand and by a program. Not trusted: Lean checks it. -/
import Derived.Lib.SliceRun
import Derived.Test.YtjopbfidjapmbaaGreatDoorTa6
import Derived.Test.YtjopbfidjapmbaaGreatDoorTa8
import Derived.Test.YtjopbfidjapmbaaGreatDoorTa9
import Derived.Test.YtjopbfidjapmbaaGreatDoorTa10
set_option linter.unusedVariables false
set_option linter.unusedSimpArgs false
namespace Go.Proofs.YtjopbfidjapmbaaGreatDoor.Q
open Go.RowKit Go.Proofs.YtjopbfidjapmbaaGreatDoorW.PrintWords Go.Proofs.YtjopbfidjapmbaaGreatDoorW.PrintLast Go.Proofs.YtjopbfidjapmbaaGreatDoorW.PrintMore
set_option linter.unusedVariables false
set_option linter.unusedSimpArgs false
open Go.Proofs.YtjopbfidjapmbaaGreatDoorS
theorem box4 (w : World) (a b c d : Obj) : ((((w.alloc a).alloc b).alloc c).alloc d).heap[w.heap.size]? = some a ∧ ((((w.alloc a).alloc b).alloc c).alloc d).heap[w.heap.size + 1]? = some b ∧ ((((w.alloc a).alloc b).alloc c).alloc d).heap[w.heap.size + 1 + 1]? = some c ∧ ((((w.alloc a).alloc b).alloc c).alloc d).heap[w.heap.size + 1 + 1 + 1]? = some d ∧ Below w.heap.size w ((((w.alloc a).alloc b).alloc c).alloc d) :=
  ⟨blk_alloc (box3 w a b c).1 d,blk_alloc (box3 w a b c).2.1 d,blk_alloc (box3 w a b c).2.2.1 d,by have:=blk_new (((w.alloc a).alloc b).alloc c) d;simpa using this,below_alloc (box3 w a b c).2.2.2 d⟩
def put4 (w : World) (g : Nat) (v0 v1 v2 v3 : Value) : World:=(((w.setCell ⟨g,0,none⟩ v0).setCell ⟨g,1,none⟩ v1).setCell ⟨g,2,none⟩ v2).setCell ⟨g,3,none⟩ v3
theorem put4_facts {w : World} {g t : Nat} {c0 c1 c2 c3 : Value} (h : w.heap[g]? = some (.cells #[c0,c1,c2,c3] t (0,0))) (v0 v1 v2 v3 : Value) :
    (put4 w g v0 v1 v2 v3).heap[g]? = some (.cells #[v0,v1,v2,v3] t (0,0)) ∧ (∀ k,k ≠ g → (put4 w g v0 v1 v2 v3).heap[k]? = w.heap[k]?) ∧ ∀ B w0,Below B w0 w → B ≤ g → Below B w0 (put4 w g v0 v1 v2 v3):=by
  refine ⟨?_,fun k hk=>?_,fun B w0 hb hg=>?_⟩
  · have h1:=blk_put (cs':=#[v0,c1,c2,c3]) h 0 v0 rfl
    have h2:=blk_put (cs':=#[v0,v1,c2,c3]) h1 1 v1 rfl
    have h3:=blk_put (cs':=#[v0,v1,v2,c3]) h2 2 v2 rfl
    exact blk_put (cs':=#[v0,v1,v2,v3]) h3 3 v3 rfl
  · unfold put4
    rw [Below.heap_setCell _ _ _ k hk,Below.heap_setCell _ _ _ k hk,Below.heap_setCell _ _ _ k hk,Below.heap_setCell _ _ _ k hk]
  · exact (((hb.setCell hg _).setCell hg _).setCell hg _).setCell hg _
theorem one_facts {w : World} {g t i : Nat} {cs cs' : Array Value} (h : w.heap[g]? = some (.cells cs t (0,0))) (v : Value) (e : cs.setIfInBounds i v = cs') :
    (w.setCell ⟨g,i,none⟩ v).heap[g]? = some (.cells cs' t (0,0)) ∧ (∀ k,k ≠ g → (w.setCell ⟨g,i,none⟩ v).heap[k]? = w.heap[k]?) ∧ ∀ B w0,Below B w0 w → B ≤ g → Below B w0 (w.setCell ⟨g,i,none⟩ v) :=
  ⟨blk_put h i v e,fun k hk=>Below.heap_setCell _ _ _ k hk,fun B w0 hb hg=>hb.setCell hg _⟩
def doErr (e : Int) : List ByteArray × List Bool × Int × Bool × Int:=([],[],0,false,e)
def emptyAt (l : List ByteArray) (i : Int) : Bool:=(rdOf ByteArray.empty l i).toList.isEmpty
def doAct (H W : Int) (bl ri be : List Bool) (cells sc : List ByteArray) (ss : List Bool) (at_ : Int) (dn : Bool) (kind cell : Int) (text : ByteArray) : List ByteArray × List Bool × Int × Bool × Int :=
  if kind = 1 then (if ucount (ufold text false) < 1 ∨ 3 < ucount (ufold text false) then doErr 33 else (sc.set at_.toNat (ufold text false),ss.set at_.toNat (!(ufold text false).toList.isEmpty),stepOf H W bl ri be at_ dn 1,dn,0))
  else if kind = 2 then (if emptyAt sc at_ then (sc.set (stepOf H W bl ri be at_ dn (-1)).toNat ⟨#[]⟩,ss.set (stepOf H W bl ri be at_ dn (-1)).toNat false,stepOf H W bl ri be at_ dn (-1),dn,0) else (sc.set at_.toNat ⟨#[]⟩,ss.set at_.toNat false,at_,dn,0))
  else if kind = 3 then (if gopen bl cell then (if cell = at_ then (sc,ss,at_,!dn,0) else (sc,ss,cell,dn,0)) else doErr 230)
  else if kind = 4 then (sc,ss,at_,!dn,0)
  else if kind = 5 then (if emptyAt sc at_ then doErr 140 else (sc,ss.set at_.toNat (!rdOf false ss at_),at_,dn,0))
  else if kind = 6 then (if emptyAt cells at_ then doErr 140 else (sc.set at_.toNat (rdOf ByteArray.empty cells at_),ss.set at_.toNat (!emptyAt cells at_),at_,dn,0))
  else (List.replicate sc.length ⟨#[]⟩,List.replicate ss.length false,at_,dn,0)
def badAct (kind cell : Int) (text : ByteArray) : Bool:=decide (kind < 1) || decide (7 < kind) || (!decide (kind = 1) && !text.toList.isEmpty) || (!decide (kind = 3) && !decide (cell = 0))
def doOf (title : ByteArray) (H W : Int) (bl ri be : List Bool) (cells clues sc : List ByteArray) (ss : List Bool) (at_ : Int) (dn : Bool) (kind cell : Int) (text : ByteArray) : List ByteArray × List Bool × Int × Bool × Int :=
  if scheck title H W bl ri be cells clues sc ss at_ = 0 then (if badAct kind cell text then doErr 231 else doAct H W bl ri be cells sc ss at_ dn kind cell text) else doErr (scheck title H W bl ri be cells clues sc ss at_)
def DoPost (w : World) (r : List ByteArray × List Bool × Int × Bool × Int) (e : Ending) (w' : World) : Prop :=
  ∃ v0 v1,e = .returned (.tuple #[.agg #[v0,v1,.int .i64 r.2.2.1,.bool r.2.2.2.1],.int .i64 r.2.2.2.2]) ∧ Kd.R Kd.string 9 w' w.heap.size (fun _=>True) v0 r.1 ∧ Kd.R Kd.bool 4 w' w.heap.size (fun _=>True) v1 r.2.1 ∧ Below w.heap.size w w'
theorem DoPost.err {w w' : World} {err : Int} (hb : Below w.heap.size w w') : DoPost w (doErr err) (.returned (.tuple #[.agg #[.slice none 0 0,.slice none 0 0,.int .i64 0,.bool false],.int .i64 err])) w' :=
  ⟨_,_,rfl,Kd.R_nil _ _ _ _ _,Kd.R_nil _ _ _ _ _,hb⟩
structure DoW (w w' : World) (pc sc ac rc : Array Value) (v0 v1 : Value) (xs : List ByteArray) (bs : List Bool) : Prop where
  p : w'.heap[w.heap.size]? = some (.cells pc 42 (0,0))
  s : w'.heap[w.heap.size + 1]? = some (.cells sc 57 (0,0))
  a : w'.heap[w.heap.size + 1 + 1]? = some (.cells ac 35 (0,0))
  r : w'.heap[w.heap.size + 1 + 1 + 1]? = some (.cells rc 57 (0,0))
  x : Kd.R Kd.string 9 w' w.heap.size (fun _=>True) v0 xs
  b : Kd.R Kd.bool 4 w' w.heap.size (fun _=>True) v1 bs
  bl : Below w.heap.size w w'
theorem DoW.below {w w' w2 : World} {pc sc ac rc : Array Value} {v0 v1 : Value} {xs : List ByteArray} {bs : List Bool} (h : DoW w w' pc sc ac rc v0 v1 xs bs) (hb : Below w'.heap.size w' w2) : DoW w w2 pc sc ac rc v0 v1 xs bs :=
  ⟨blk_below h.p hb,blk_below h.s hb,blk_below h.a hb,blk_below h.r hb,Kd.R_below h.x hb,Kd.R_below h.b hb,h.bl.trans (hb.mono h.bl.size)⟩
theorem DoW.putS {w w' w2 : World} {pc sc sc' ac rc : Array Value} {v0 v1 : Value} {xs : List ByteArray} {bs : List Bool} (h : DoW w w' pc sc ac rc v0 v1 xs bs) (hf : w2.heap[w.heap.size + 1]? = some (.cells sc' 57 (0,0)) ∧ (∀ k,k ≠ w.heap.size + 1 → w2.heap[k]? = w'.heap[k]?) ∧ ∀ B w0,Below B w0 w' → B ≤ w.heap.size + 1 → Below B w0 w2) : DoW w w2 pc sc' ac rc v0 v1 xs bs :=
  ⟨(hf.2.1 _ (by omega)).trans h.p,hf.1,(hf.2.1 _ (by omega)).trans h.a,(hf.2.1 _ (by omega)).trans h.r,R_of_heap h.x h.s (by decide) hf.2.1,R_of_heap h.b h.s (by decide) hf.2.1,hf.2.2 _ _ h.bl (by omega)⟩
theorem DoW.putR {w w' w2 : World} {pc sc ac rc rc' : Array Value} {v0 v1 : Value} {xs : List ByteArray} {bs : List Bool} (h : DoW w w' pc sc ac rc v0 v1 xs bs) (hf : w2.heap[w.heap.size + 1 + 1 + 1]? = some (.cells rc' 57 (0,0)) ∧ (∀ k,k ≠ w.heap.size + 1 + 1 + 1 → w2.heap[k]? = w'.heap[k]?) ∧ ∀ B w0,Below B w0 w' → B ≤ w.heap.size + 1 + 1 + 1 → Below B w0 w2) : DoW w w2 pc sc ac rc' v0 v1 xs bs :=
  ⟨(hf.2.1 _ (by omega)).trans h.p,(hf.2.1 _ (by omega)).trans h.s,(hf.2.1 _ (by omega)).trans h.a,hf.1,R_of_heap h.x h.r (by decide) hf.2.1,R_of_heap h.b h.r (by decide) hf.2.1,hf.2.2 _ _ h.bl (by omega)⟩
theorem DoW.written {w w' w2 : World} {pc sc ac rc : Array Value} {g0 g1 n0 n1 k0 k1 : Nat} {xs xs' : List ByteArray} {bs bs' : List Bool} (h : DoW w w' pc sc ac rc (.slice (some ⟨g0,0,none⟩) n0 k0) (.slice (some ⟨g1,0,none⟩) n1 k1) xs bs) (hx : Kd.R Kd.string 9 w2 w.heap.size (fun _=>True) (.slice (some ⟨g0,0,none⟩) n0 k0) xs') (hb : Kd.R Kd.bool 4 w2 w.heap.size (fun _=>True) (.slice (some ⟨g1,0,none⟩) n1 k1) bs') (hk : ∀ k,k ≠ g0 → k ≠ g1 → w2.heap[k]? = w'.heap[k]?) (hB : ∀ B w0,Below B w0 w' → B ≤ g0 → B ≤ g1 → Below B w0 w2) : DoW w w2 pc sc ac rc (.slice (some ⟨g0,0,none⟩) n0 k0) (.slice (some ⟨g1,0,none⟩) n1 k1) xs' bs':=by
  have hx0 : ∀ {g t : Nat} {cs : Array Value},w'.heap[g]? = some (.cells cs t (0,0)) → 9 ≠ t → g ≠ g0:=fun hg ht e=>by have:=Kd.R_ne h.x hg ht;simp [Value.ownBlock,e] at this
  have hb0 : ∀ {g t : Nat} {cs : Array Value},w'.heap[g]? = some (.cells cs t (0,0)) → 4 ≠ t → g ≠ g1:=fun hg ht e=>by have:=Kd.R_ne h.b hg ht;simp [Value.ownBlock,e] at this
  exact ⟨(hk _ (hx0 h.p (by decide)) (hb0 h.p (by decide))).trans h.p,(hk _ (hx0 h.s (by decide)) (hb0 h.s (by decide))).trans h.s,(hk _ (hx0 h.a (by decide)) (hb0 h.a (by decide))).trans h.a,(hk _ (hx0 h.r (by decide)) (hb0 h.r (by decide))).trans h.r,hx,hb,hB _ _ h.bl (Kd.R_base h.x g0 rfl) (Kd.R_base h.b g1 rfl)⟩
theorem frozen4 {w : World} {b t : Nat} {cs : Array Value} (h : w.heap[b]? = some (.cells cs t (0,0))) : w.frozen? ⟨b,0,none⟩ = false ∧ w.frozen? ⟨b,1,none⟩ = false ∧ w.frozen? ⟨b,2,none⟩ = false ∧ w.frozen? ⟨b,3,none⟩ = false:=⟨blk_frozen h 0,blk_frozen h 1,blk_frozen h 2,blk_frozen h 3⟩
theorem doFacts {w w' : World} {p0 p1 p2 p3 p4 p5 p6 p7 s0 s1 s2 s3 a0 a1 a2 r0 r1 r2 r3 : Value} {v0 v1 : Value} {xs : List ByteArray} {bs : List Bool} (h : DoW w w' #[p0,p1,p2,p3,p4,p5,p6,p7] #[s0,s1,s2,s3] #[a0,a1,a2] #[r0,r1,r2,r3] v0 v1 xs bs) :
    (w'.cell? ⟨w.heap.size,0,none⟩ = some p0 ∧ w'.cell? ⟨w.heap.size,1,none⟩ = some p1 ∧ w'.cell? ⟨w.heap.size,2,none⟩ = some p2 ∧ w'.cell? ⟨w.heap.size,3,none⟩ = some p3 ∧ w'.cell? ⟨w.heap.size,4,none⟩ = some p4 ∧ w'.cell? ⟨w.heap.size,5,none⟩ = some p5 ∧ w'.cell? ⟨w.heap.size,6,none⟩ = some p6 ∧ w'.cell? ⟨w.heap.size,7,none⟩ = some p7) ∧ (w'.cell? ⟨w.heap.size + 1,0,none⟩ = some s0 ∧ w'.cell? ⟨w.heap.size + 1,1,none⟩ = some s1 ∧ w'.cell? ⟨w.heap.size + 1,2,none⟩ = some s2 ∧ w'.cell? ⟨w.heap.size + 1,3,none⟩ = some s3) ∧ (w'.cell? ⟨w.heap.size + 1 + 1,0,none⟩ = some a0 ∧ w'.cell? ⟨w.heap.size + 1 + 1,1,none⟩ = some a1 ∧ w'.cell? ⟨w.heap.size + 1 + 1,2,none⟩ = some a2) ∧ (w'.cell? ⟨w.heap.size + 1 + 1 + 1,0,none⟩ = some r0 ∧ w'.cell? ⟨w.heap.size + 1 + 1 + 1,1,none⟩ = some r1 ∧ w'.cell? ⟨w.heap.size + 1 + 1 + 1,2,none⟩ = some r2 ∧ w'.cell? ⟨w.heap.size + 1 + 1 + 1,3,none⟩ = some r3) ∧ (w'.frozen? ⟨w.heap.size + 1,0,none⟩ = false ∧ w'.frozen? ⟨w.heap.size + 1,1,none⟩ = false ∧ w'.frozen? ⟨w.heap.size + 1,2,none⟩ = false ∧ w'.frozen? ⟨w.heap.size + 1,3,none⟩ = false) ∧ (w'.frozen? ⟨w.heap.size + 1 + 1 + 1,0,none⟩ = false ∧ w'.frozen? ⟨w.heap.size + 1 + 1 + 1,1,none⟩ = false ∧ w'.frozen? ⟨w.heap.size + 1 + 1 + 1,2,none⟩ = false ∧ w'.frozen? ⟨w.heap.size + 1 + 1 + 1,3,none⟩ = false) :=
  And.intro (cells8 h.p) (And.intro (cells4 h.s) (And.intro (cells3 h.a) (And.intro (cells4 h.r) (And.intro (frozen4 h.s) (frozen4 h.r)))))
theorem DoW.flip {w w' : World} {pc sc ac rc : Array Value} {v0 : Value} {g1 k1 : Nat} {xs : List ByteArray} {bs : List Bool} (h : DoW w w' pc sc ac rc v0 (.slice (some ⟨g1,0,none⟩) bs.length k1) xs bs) {cs : Array Value} (hc : w'.heap[g1]? = some (.cells cs 4 (0,0))) (i : Int) (b : Bool) : DoW w (w'.setCell ⟨g1,i.toNat,none⟩ (.bool b)).drew pc sc ac rc v0 (.slice (some ⟨g1,0,none⟩) bs.length k1) xs (bs.set i.toNat b):=by
  have hb0 : ∀ {g t : Nat} {cs : Array Value},w'.heap[g]? = some (.cells cs t (0,0)) → 4 ≠ t → g ≠ g1:=fun hg ht e=>by have:=Kd.R_ne h.b hg ht;simp [Value.ownBlock,e] at this
  have hk : ∀ k,k ≠ g1 → (w'.setCell ⟨g1,i.toNat,none⟩ (.bool b)).drew.heap[k]? = w'.heap[k]?:=fun k hk=>Below.heap_setCell w' _ _ k hk
  exact ⟨(hk _ (hb0 h.p (by decide))).trans h.p,(hk _ (hb0 h.s (by decide))).trans h.s,(hk _ (hb0 h.a (by decide))).trans h.a,(hk _ (hb0 h.r (by decide))).trans h.r,Kd.R_drew (Kd.R_set h.x hc (by decide) i.toNat (.bool b)),Kd.R_drew (Kd.R_put h.b i b).1,below_drew (h.bl.setCell (Kd.R_base h.b g1 rfl) _)⟩
theorem R_clear {α : Type} {enc : α → Value} {h1 : ∀ x,(enc x).oneCell' = true} {e base g c : Nat} {w : World} {xs : List α} (h : Kd.R (Kd.scalar enc h1) e w base (fun _=>True) (.slice (some ⟨g,0,none⟩) xs.length c) xs) (z : α) :
    Kd.R (Kd.scalar enc h1) e (w.setCells g 0 (List.replicate xs.length (enc z))) base (fun _=>True) (.slice (some ⟨g,0,none⟩) xs.length c) (List.replicate xs.length z):=by
  have ho:=Kd.own_of_R h
  rcases ho.2 with ⟨hv,_⟩ | ⟨g',cap,cur,hv,hb,hh,hnc,hcm,hcs,htk⟩
  · cases hv
  injection hv with ha _ hc
  injection ha with ha
  injection ha with hg'
  subst hg';subst hc
  rw [Nat.mul_one] at hcs
  obtain ⟨cur',hc1,hc2,hc3⟩:=setCells_row (List.replicate xs.length (enc z)) 0 w cur hh (by rw [List.length_replicate];omega)
  have e1 : encs enc (List.replicate xs.length z) = List.replicate xs.length (enc z):=by simp [encs]
  have:=Kd.R_of_own (enc:=enc) (h1:=h1) (e:=e) (w:=w.setCells g 0 (List.replicate xs.length (enc z))) (base:=base) (ok:=fun _=>True) (v:=.slice (some ⟨g,0,none⟩) xs.length c) (xs:=List.replicate xs.length z) ⟨by simp [encs],.inr ⟨g,c,cur',by rw [List.length_replicate],hb,hc1,by rw [List.length_replicate];exact hnc,hcm,by rw [hc2,Nat.mul_one];exact hcs,by rw [hc3,e1,List.length_replicate,Nat.mul_one];simp [List.take_append]⟩⟩ (fun _ _=>trivial)
  exact this
theorem DoW.clearX {w w' : World} {pc sc ac rc : Array Value} {v1 : Value} {g0 k0 : Nat} {xs : List ByteArray} {bs : List Bool} (h : DoW w w' pc sc ac rc (.slice (some ⟨g0,0,none⟩) xs.length k0) v1 xs bs) : DoW w (w'.setCells g0 0 (List.replicate xs.length (.string ⟨#[]⟩))) pc sc ac rc (.slice (some ⟨g0,0,none⟩) xs.length k0) v1 (List.replicate xs.length ⟨#[]⟩) bs:=by
  obtain ⟨cs,hc⟩:=Kd.R_typed h.x g0 rfl
  have hk : ∀ k,k ≠ g0 → (w'.setCells g0 0 (List.replicate xs.length (.string ⟨#[]⟩))).heap[k]? = w'.heap[k]?:=fun k hk=>setCells_far _ _ k hk
  have hx0 : ∀ {g t : Nat} {cs : Array Value},w'.heap[g]? = some (.cells cs t (0,0)) → 9 ≠ t → g ≠ g0:=fun hg ht e=>by have:=Kd.R_ne h.x hg ht;simp [Value.ownBlock,e] at this
  have hs:=setCells_same g0 (List.replicate xs.length (.string ⟨#[]⟩)) 0 w'
  have hg:=Kd.R_base h.x g0 rfl
  exact ⟨(hk _ (hx0 h.p (by decide))).trans h.p,(hk _ (hx0 h.s (by decide))).trans h.s,(hk _ (hx0 h.a (by decide))).trans h.a,(hk _ (hx0 h.r (by decide))).trans h.r,R_clear h.x ⟨#[]⟩,R_of_heap h.b hc (by decide) hk,⟨hs.1.trans h.bl.os,hs.2.1.trans h.bl.tape,hs.2.2.1.trans h.bl.output,by rw [hs.2.2.2];exact h.bl.size,fun k hk2=>(hk k (by omega)).trans (h.bl.block k hk2)⟩⟩
theorem DoW.clearB {w w' : World} {pc sc ac rc : Array Value} {v0 : Value} {g1 k1 : Nat} {xs : List ByteArray} {bs : List Bool} (h : DoW w w' pc sc ac rc v0 (.slice (some ⟨g1,0,none⟩) bs.length k1) xs bs) : DoW w (w'.setCells g1 0 (List.replicate bs.length (.bool false))) pc sc ac rc v0 (.slice (some ⟨g1,0,none⟩) bs.length k1) xs (List.replicate bs.length false):=by
  obtain ⟨cs,hc⟩:=Kd.R_typed h.b g1 rfl
  have hk : ∀ k,k ≠ g1 → (w'.setCells g1 0 (List.replicate bs.length (.bool false))).heap[k]? = w'.heap[k]?:=fun k hk=>setCells_far _ _ k hk
  have hx0 : ∀ {g t : Nat} {cs : Array Value},w'.heap[g]? = some (.cells cs t (0,0)) → 4 ≠ t → g ≠ g1:=fun hg ht e=>by have:=Kd.R_ne h.b hg ht;simp [Value.ownBlock,e] at this
  have hs:=setCells_same g1 (List.replicate bs.length (.bool false)) 0 w'
  have hg:=Kd.R_base h.b g1 rfl
  exact ⟨(hk _ (hx0 h.p (by decide))).trans h.p,(hk _ (hx0 h.s (by decide))).trans h.s,(hk _ (hx0 h.a (by decide))).trans h.a,(hk _ (hx0 h.r (by decide))).trans h.r,R_of_heap h.x hc (by decide) hk,R_clear h.b false,⟨hs.1.trans h.bl.os,hs.2.1.trans h.bl.tape,hs.2.2.1.trans h.bl.output,by rw [hs.2.2.2];exact h.bl.size,fun k hk2=>(hk k (by omega)).trans (h.bl.block k hk2)⟩⟩
theorem event_at {P : Program} {ops : Array Oper} {rest : List Oper} {o : Oper} {a : Act} {Q : Exit → Act → World → Prop} {W w1 : World} {v : Value} (hgd : o.guard = none) (hrun : (execOp a.eval o).run P W = .ok (.value v) w1) (h : ∀ w',w' = w1 → wpList P ops Q rest (a.put o.dst v) w') : wpList P ops Q (o :: rest) a W:=Kd.event_run hgd hrun (h _ rfl)
set_option maxRecDepth 100000 in
theorem clear_run {e t g c : Nat} {α : Type} {enc : α → Value} {h1 : ∀ x,(enc x).oneCell' = true} {w : World} {base : Nat} {xs : List α} (z : Value) (hz : z.cells = #[z]) (hz1 : z.oneCell' = true) (ht : Tryz.prog.underlying t = some (.slice e)) (hv : ∀ w,(zeroValue e).run Tryz.prog w = .ok z w) (h : Kd.R (Kd.scalar enc h1) e w base (fun _=>True) (.slice (some ⟨g,0,none⟩) xs.length c) xs) (hp : 0 < xs.length) (ty : TypeId) :
    (Builtin.clear_ #[t] ty #[.slice (some ⟨g,0,none⟩) xs.length c]).run Tryz.prog w = .ok (.tuple #[]) (w.setCells g 0 (List.replicate xs.length z)):=by
  have ho:=Kd.own_of_R h
  rcases ho.2 with ⟨hv,_⟩ | ⟨g',cap,cur,hv2,hb,hh,hnc,hcm,hcs,htk⟩
  · cases hv
  injection hv2 with ha _ hc
  injection ha with ha
  injection ha with hg'
  subst hg';subst hc
  rw [Nat.mul_one] at hcs
  exact Lib.run_clear_slice w t e ty z ht hv hz hz1 g 0 xs.length c hp (fun j hj=>by rw [Nat.zero_add,blk_cell hh j];simp;omega) (fun j hj=>by rw [Nat.zero_add];exact blk_frozen hh j)
theorem scheck_grid {title : ByteArray} {H W : Int} {bl ri be : List Bool} {cells clues sc : List ByteArray} {ss : List Bool} {at_ : Int} (h : scheck title H W bl ri be cells clues sc ss at_ = 0) : gcheck H W bl ri be = 0 ∧ sc.length = bl.length ∧ ss.length = bl.length ∧ cells.length = bl.length ∧ 0 ≤ at_ ∧ at_ < bl.length ∧ 0 < bl.length ∧ bl.length ≤ 256:=by
  obtain ⟨h1,h2,h3,h4,h5,h6⟩:=scheck_ok h
  obtain ⟨g1,g2,_⟩:=pcheck_ok h1
  have ho:=gopen_lt h6
  have hm:=mul_small (gcheck_ok g1).1 (gcheck_ok g1).2.1
  have hl:=(gcheck_ok g1).2.2.1
  exact ⟨g1,by omega,by omega,g2,ho.1,ho.2,by omega,by omega⟩
theorem stepOf_range {H W : Int} {bl ri be : List Bool} {at_ : Int} {dn : Bool} {d : Int} (hc : gcheck H W bl ri be = 0) (h0 : 0 ≤ at_) (h1 : at_ < bl.length) : 0 ≤ stepOf H W bl ri be at_ dn d ∧ stepOf H W bl ri be at_ dn d < bl.length:=by
  have hsf:=seatsOf_facts hc
  have hLf:=slotsOf_facts hc
  have hrow : (∀ x ∈ seatRow H W bl ri be dn,SeatOk (slotsOf H W bl ri be).length bl.length x) ∧ (seatRow H W bl ri be dn).length = bl.length:=by
    unfold seatRow
    cases dn
    · exact ⟨hsf.1,hsf.2.2.1⟩
    · exact ⟨hsf.2.1,hsf.2.2.2⟩
  have hok:=hrow.1 _ (rd_seat h0 (by rw [hrow.2];exact h1))
  unfold stepOf stepSeat
  generalize rd_T150 (seatRow H W bl ri be dn) at_ = seat at hok ⊢
  by_cases hn : seat.f0 < 0
  · rw [if_pos hn];exact ⟨h0,h1⟩
  · rw [if_neg hn]
    split
    · rename_i hi
      obtain ⟨m,hm⟩ : ∃ m : Nat,(m : Int) = seat.f0:=⟨seat.f0.toNat,by omega⟩
      have hmem:=mem_rd (L:=slotsOf H W bl ri be) (m:=m) (by have:=hok.2.1;omega)
      rw [hm] at hmem
      obtain ⟨q,hq⟩ : ∃ q : Nat,(q : Int) = seat.f1 + d:=⟨(seat.f1 + d).toNat,by omega⟩
      have hc2:=mem_rdI (L:=(rd_T137 (slotsOf H W bl ri be) seat.f0).f2) (m:=q) (by omega)
      rw [hq] at hc2
      exact (hLf.2 _ hmem).2 _ hc2
    · exact ⟨h0,h1⟩
variable {title : ByteArray} {H W : Int} {A2 : Option Addr} {c2 : Nat} {bl : List Bool} {A3 : Option Addr} {c3 : Nat} {ri : List Bool} {A4 : Option Addr} {c4 : Nat} {be : List Bool} {A5 : Option Addr} {c5 : Nat} {cells : List ByteArray} {A6 : Option Addr} {c6 : Nat} {clues : List ByteArray} {A7 : Option Addr} {c7 : Nat} {sc : List ByteArray} {A8 : Option Addr} {c8 : Nat} {ss : List Bool} {at_ : Int} {dn : Bool}
set_option maxHeartbeats 8000000 in
set_option maxRecDepth 1000000 in
theorem do_wrong {kind cell : Int} {text : ByteArray} {w : World} (hT : Tabs w) (hP : PuzR A2 c2 bl A3 c3 ri A4 c4 be A5 c5 cells A6 c6 clues w) (hS : ShtR A7 c7 sc A8 c8 ss w) (hz : PuzS title cells clues) (hzs : Small sc) (hne : scheck title H W bl ri be cells clues sc ss at_ ≠ 0) :
    Calls Tryz.prog 51 #[.agg #[.string title,.int .i64 H,.int .i64 W,.slice A2 bl.length c2,.slice A3 ri.length c3,.slice A4 be.length c4,.slice A5 cells.length c5,.slice A6 clues.length c6],.agg #[.slice A7 sc.length c7,.slice A8 ss.length c8,.int .i64 at_,.bool dn],.agg #[.int .i64 kind,.int .i64 cell,.string text]] w (DoPost w (doErr (scheck title H W bl ri be cells clues sc ss at_))):=by
  obtain ⟨er,her⟩ : ∃ er,scheck title H W bl ri be cells clues sc ss at_ = er:=⟨_,rfl⟩
  have hck:=her
  rw [her] at hne ⊢
  have tne : (er != 0) = true:=bne_iff_ne.2 hne
  replace hck:=Lib.hid hck
  clear her hne
  have hx:=box4 w (.cells #[.string title,.int .i64 H,.int .i64 W,.slice A2 bl.length c2,.slice A3 ri.length c3,.slice A4 be.length c4,.slice A5 cells.length c5,.slice A6 clues.length c6] 42) (.cells #[.slice A7 sc.length c7,.slice A8 ss.length c8,.int .i64 at_,.bool dn] 57) (.cells #[.int .i64 kind,.int .i64 cell,.string text] 35) (.cells #[.slice none 0 0,.slice none 0 0,.int .i64 0,.bool false] 57)
  replace hx:=Lib.hid hx
  have hu30:=Tryz.underlying57
  go_enter Tryz.func51,Tryz.ntmps51
  go_wp2_with (first | (go_at_call 63;go_must (refine (check_calls (tabs_below hT hx.out.2.2.2.2) (hP.below hx.out.2.2.2.2) (hS.below hx.out.2.2.2.2) hz hzs).mono ?_;rintro e w3 ⟨rfl,hb3⟩;rw [hck.out];have D3:=Lib.hid (DoW.below (w:=w) (⟨hx.out.1,hx.out.2.1,hx.out.2.2.1,hx.out.2.2.2.1,Kd.R_nil _ _ _ _ _,Kd.R_nil _ _ _ _ _,hx.out.2.2.2.2⟩ : DoW w _ _ _ _ _ (.slice none 0 0) (.slice none 0 0) [] []) hb3);clear hb3;have q:=doFacts D3.out)) | ((with_reducible refine gate_store (t:=57) (p:=6) (v:=.tmp 16) rfl ?_);go_must (refine store_event (w1:=put4 w3 (w.heap.size + 1 + 1 + 1) (.slice none 0 0) (.slice none 0 0) (.int .i64 0) (.bool false)) (by rfl) (by rfl) (by rfl) ?hr ?_;(case hr=>first | (go_simp;done) | (go_simp;rfl));intro w5 hw5;have Fw5:=put4_facts D3.out.r (.slice none 0 0) (.slice none 0 0) (.int .i64 0) (.bool false);rw [← hw5] at Fw5;have D5:=Lib.hid (D3.out.putR Fw5);clear hw5 Fw5 q)))
  refine bodyPost_ret (results_ct rfl _ _ (w.heap.size + 1 + 1 + 1) 57 #[.slice none 0 0,.slice none 0 0,.int .i64 0,.bool false] (0,0) _ rfl D5.out.r Tryz.underlying57 rfl (by kernel_rfl)) rfl ?_
  exact DoPost.err D5.out.bl
set_option maxHeartbeats 8000000 in
set_option maxRecDepth 1000000 in
theorem do_bad {kind cell : Int} {text : ByteArray} {w : World} (hT : Tabs w) (hP : PuzR A2 c2 bl A3 c3 ri A4 c4 be A5 c5 cells A6 c6 clues w) (hS : ShtR A7 c7 sc A8 c8 ss w) (hz : PuzS title cells clues) (hzs : Small sc) (h0 : scheck title H W bl ri be cells clues sc ss at_ = 0) (hb : badAct kind cell text = true) :
    Calls Tryz.prog 51 #[.agg #[.string title,.int .i64 H,.int .i64 W,.slice A2 bl.length c2,.slice A3 ri.length c3,.slice A4 be.length c4,.slice A5 cells.length c5,.slice A6 clues.length c6],.agg #[.slice A7 sc.length c7,.slice A8 ss.length c8,.int .i64 at_,.bool dn],.agg #[.int .i64 kind,.int .i64 cell,.string text]] w (DoPost w (doErr 231)):=by
  have hck:=h0
  obtain ⟨hgc,hl0,hl1,hl2,ha0,ha1,hpos,h256⟩:=scheck_grid h0
  have hcp : sheet_copied.f sc ss at_ dn = some (sc,ss,at_,dn):=by unfold sheet_copied.f slices_Clone_string_string.f slices_Clone_bool_bool.f;rw [if_pos (by omega),if_pos (by omega)];rfl
  replace hck:=Lib.hid hck
  replace hcp:=Lib.hid hcp
  replace hgc:=Lib.hid hgc
  replace hl0:=Lib.hid hl0
  replace hl1:=Lib.hid hl1
  replace hl2:=Lib.hid hl2
  clear h0
  have hx:=box4 w (.cells #[.string title,.int .i64 H,.int .i64 W,.slice A2 bl.length c2,.slice A3 ri.length c3,.slice A4 be.length c4,.slice A5 cells.length c5,.slice A6 clues.length c6] 42) (.cells #[.slice A7 sc.length c7,.slice A8 ss.length c8,.int .i64 at_,.bool dn] 57) (.cells #[.int .i64 kind,.int .i64 cell,.string text] 35) (.cells #[.slice none 0 0,.slice none 0 0,.int .i64 0,.bool false] 57)
  replace hx:=Lib.hid hx
  have hu30:=Tryz.underlying57
  have hu36:=Tryz.underlying35
  have hu27:=Tryz.underlying42
  have hu24:=Tryz.underlying39
  have key : (kind < 1) ∨ (1 ≤ kind ∧ 7 < kind) ∨ (1 ≤ kind ∧ kind ≤ 7 ∧ kind = 1 ∧ cell ≠ 0) ∨ (1 ≤ kind ∧ kind ≤ 7 ∧ kind ≠ 1 ∧ ¬ text.toList = []) ∨ (1 ≤ kind ∧ kind ≤ 7 ∧ kind ≠ 1 ∧ text.toList = [] ∧ kind ≠ 3 ∧ cell ≠ 0):=by
    by_cases k1 : kind < 1
    · exact .inl k1
    · by_cases k2 : 7 < kind
      · exact .inr (.inl ⟨by omega,k2⟩)
      · by_cases k3 : kind = 1
        · refine .inr (.inr (.inl ⟨by omega,by omega,k3,fun hc=>?_⟩))
          subst k3
          simp [badAct,hc] at hb
        · by_cases k4 : text.toList = []
          · refine .inr (.inr (.inr (.inr ⟨by omega,by omega,k3,k4,?_,?_⟩)))
            · intro k5;subst k5;simp [badAct,k4] at hb
            · intro k5;subst k5;simp [badAct,k4] at hb;omega
          · exact .inr (.inr (.inr (.inl ⟨by omega,by omega,k3,k4⟩)))
  clear hb
  rcases key with k1 | ⟨k0,k1⟩ | ⟨k0,k1,rfl,k2⟩ | ⟨k0,k1,k2,k3⟩ | ⟨k0,k1,k2,k3,k4,k5⟩
  · have e1 : decide (kind < 1) = true:=decide_eq_true k1
    go_enter Tryz.func51,Tryz.ntmps51
    go_wp2_with (first | (go_at_call 63;go_must (refine (check_calls (tabs_below hT hx.out.2.2.2.2) (hP.below hx.out.2.2.2.2) (hS.below hx.out.2.2.2.2) hz hzs).mono ?_;rintro e w3 ⟨rfl,hb3⟩;rw [hck.out];have D3:=Lib.hid (DoW.below (w:=w) (⟨hx.out.1,hx.out.2.1,hx.out.2.2.1,hx.out.2.2.2.1,Kd.R_nil _ _ _ _ _,Kd.R_nil _ _ _ _ _,hx.out.2.2.2.2⟩ : DoW w _ _ _ _ _ (.slice none 0 0) (.slice none 0 0) [] []) hb3);clear hb3;have q:=doFacts D3.out)) | ((with_reducible refine gate_store (t:=57) (p:=6) (v:=.tmp 46) rfl ?_);go_must (refine store_event (w1:=put4 w3 (w.heap.size + 1 + 1 + 1) (.slice none 0 0) (.slice none 0 0) (.int .i64 0) (.bool false)) (by rfl) (by rfl) (by rfl) ?hr ?_;(case hr=>first | (go_simp;done) | (go_simp;rfl));intro w5 hw5;have Fw5:=put4_facts D3.out.r (.slice none 0 0) (.slice none 0 0) (.int .i64 0) (.bool false);rw [← hw5] at Fw5;have D5:=Lib.hid (D3.out.putR Fw5);clear hw5 Fw5 q)))
    refine bodyPost_ret (results_ct rfl _ _ (w.heap.size + 1 + 1 + 1) 57 #[.slice none 0 0,.slice none 0 0,.int .i64 0,.bool false] (0,0) _ rfl D5.out.r Tryz.underlying57 rfl (by kernel_rfl)) rfl ?_
    exact DoPost.err D5.out.bl
  · have e1 : decide (kind < 1) = false:=decide_eq_false (by omega)
    have e2 : decide (7 < kind) = true:=decide_eq_true k1
    go_enter Tryz.func51,Tryz.ntmps51
    go_wp2_with (first | (go_at_call 63;go_must (refine (check_calls (tabs_below hT hx.out.2.2.2.2) (hP.below hx.out.2.2.2.2) (hS.below hx.out.2.2.2.2) hz hzs).mono ?_;rintro e w3 ⟨rfl,hb3⟩;rw [hck.out];have D3:=Lib.hid (DoW.below (w:=w) (⟨hx.out.1,hx.out.2.1,hx.out.2.2.1,hx.out.2.2.2.1,Kd.R_nil _ _ _ _ _,Kd.R_nil _ _ _ _ _,hx.out.2.2.2.2⟩ : DoW w _ _ _ _ _ (.slice none 0 0) (.slice none 0 0) [] []) hb3);clear hb3;have q:=doFacts D3.out)) | ((with_reducible refine gate_store (t:=57) (p:=6) (v:=.tmp 46) rfl ?_);go_must (refine store_event (w1:=put4 w3 (w.heap.size + 1 + 1 + 1) (.slice none 0 0) (.slice none 0 0) (.int .i64 0) (.bool false)) (by rfl) (by rfl) (by rfl) ?hr ?_;(case hr=>first | (go_simp;done) | (go_simp;rfl));intro w5 hw5;have Fw5:=put4_facts D3.out.r (.slice none 0 0) (.slice none 0 0) (.int .i64 0) (.bool false);rw [← hw5] at Fw5;have D5:=Lib.hid (D3.out.putR Fw5);clear hw5 Fw5 q)))
    refine bodyPost_ret (results_ct rfl _ _ (w.heap.size + 1 + 1 + 1) 57 #[.slice none 0 0,.slice none 0 0,.int .i64 0,.bool false] (0,0) _ rfl D5.out.r Tryz.underlying57 rfl (by kernel_rfl)) rfl ?_
    exact DoPost.err D5.out.bl
  · have e6 : (cell != 0) = true:=bne_iff_ne.2 k2
    clear k2
    go_enter Tryz.func51,Tryz.ntmps51
    go_wp2_with (first | (go_at_call 63;go_must (refine (check_calls (tabs_below hT hx.out.2.2.2.2) (hP.below hx.out.2.2.2.2) (hS.below hx.out.2.2.2.2) hz hzs).mono ?_;rintro e w3 ⟨rfl,hb3⟩;rw [hck.out];have D3:=Lib.hid (DoW.below (w:=w) (⟨hx.out.1,hx.out.2.1,hx.out.2.2.1,hx.out.2.2.2.1,Kd.R_nil _ _ _ _ _,Kd.R_nil _ _ _ _ _,hx.out.2.2.2.2⟩ : DoW w _ _ _ _ _ (.slice none 0 0) (.slice none 0 0) [] []) hb3);clear hb3;have q:=doFacts D3.out)) | ((with_reducible refine gate_store (t:=57) (p:=6) (v:=.tmp 46) rfl ?_);go_must (refine store_event (w1:=put4 w3 (w.heap.size + 1 + 1 + 1) (.slice none 0 0) (.slice none 0 0) (.int .i64 0) (.bool false)) (by rfl) (by rfl) (by rfl) ?hr ?_;(case hr=>first | (go_simp;done) | (go_simp;rfl));intro w5 hw5;have Fw5:=put4_facts D3.out.r (.slice none 0 0) (.slice none 0 0) (.int .i64 0) (.bool false);rw [← hw5] at Fw5;have D5:=Lib.hid (D3.out.putR Fw5);clear hw5 Fw5 q)))
    refine bodyPost_ret (results_ct rfl _ _ (w.heap.size + 1 + 1 + 1) 57 #[.slice none 0 0,.slice none 0 0,.int .i64 0,.bool false] (0,0) _ rfl D5.out.r Tryz.underlying57 rfl (by kernel_rfl)) rfl ?_
    exact DoPost.err D5.out.bl
  · have e1 : decide (kind < 1) = false:=decide_eq_false (by omega)
    have e2 : decide (7 < kind) = false:=decide_eq_false (by omega)
    have e3 : (kind != 1) = true:=bne_iff_ne.2 k2
    have e4 : text.toList.isEmpty = false:=toList_nil.2 k3
    clear k2
    go_enter Tryz.func51,Tryz.ntmps51
    go_wp2_with (first | (go_at_call 63;go_must (refine (check_calls (tabs_below hT hx.out.2.2.2.2) (hP.below hx.out.2.2.2.2) (hS.below hx.out.2.2.2.2) hz hzs).mono ?_;rintro e w3 ⟨rfl,hb3⟩;rw [hck.out];have D3:=Lib.hid (DoW.below (w:=w) (⟨hx.out.1,hx.out.2.1,hx.out.2.2.1,hx.out.2.2.2.1,Kd.R_nil _ _ _ _ _,Kd.R_nil _ _ _ _ _,hx.out.2.2.2.2⟩ : DoW w _ _ _ _ _ (.slice none 0 0) (.slice none 0 0) [] []) hb3);clear hb3;have q:=doFacts D3.out)) | ((with_reducible refine gate_store (t:=57) (p:=6) (v:=.tmp 46) rfl ?_);go_must (refine store_event (w1:=put4 w3 (w.heap.size + 1 + 1 + 1) (.slice none 0 0) (.slice none 0 0) (.int .i64 0) (.bool false)) (by rfl) (by rfl) (by rfl) ?hr ?_;(case hr=>first | (go_simp;done) | (go_simp;rfl));intro w5 hw5;have Fw5:=put4_facts D3.out.r (.slice none 0 0) (.slice none 0 0) (.int .i64 0) (.bool false);rw [← hw5] at Fw5;have D5:=Lib.hid (D3.out.putR Fw5);clear hw5 Fw5 q)))
    refine bodyPost_ret (results_ct rfl _ _ (w.heap.size + 1 + 1 + 1) 57 #[.slice none 0 0,.slice none 0 0,.int .i64 0,.bool false] (0,0) _ rfl D5.out.r Tryz.underlying57 rfl (by kernel_rfl)) rfl ?_
    exact DoPost.err D5.out.bl
  · have e1 : decide (kind < 1) = false:=decide_eq_false (by omega)
    have e2 : decide (7 < kind) = false:=decide_eq_false (by omega)
    have e3 : (kind != 1) = true:=bne_iff_ne.2 k2
    have e4 : text.toList.isEmpty = true:=by rw [k3];rfl
    have e5 : (kind != 3) = true:=bne_iff_ne.2 k4
    have e6 : (cell != 0) = true:=bne_iff_ne.2 k5
    clear k2 k4 k5
    go_enter Tryz.func51,Tryz.ntmps51
    go_wp2_with (first | (go_at_call 63;go_must (refine (check_calls (tabs_below hT hx.out.2.2.2.2) (hP.below hx.out.2.2.2.2) (hS.below hx.out.2.2.2.2) hz hzs).mono ?_;rintro e w3 ⟨rfl,hb3⟩;rw [hck.out];have D3:=Lib.hid (DoW.below (w:=w) (⟨hx.out.1,hx.out.2.1,hx.out.2.2.1,hx.out.2.2.2.1,Kd.R_nil _ _ _ _ _,Kd.R_nil _ _ _ _ _,hx.out.2.2.2.2⟩ : DoW w _ _ _ _ _ (.slice none 0 0) (.slice none 0 0) [] []) hb3);clear hb3;have q:=doFacts D3.out)) | ((with_reducible refine gate_store (t:=57) (p:=6) (v:=.tmp 46) rfl ?_);go_must (refine store_event (w1:=put4 w3 (w.heap.size + 1 + 1 + 1) (.slice none 0 0) (.slice none 0 0) (.int .i64 0) (.bool false)) (by rfl) (by rfl) (by rfl) ?hr ?_;(case hr=>first | (go_simp;done) | (go_simp;rfl));intro w5 hw5;have Fw5:=put4_facts D3.out.r (.slice none 0 0) (.slice none 0 0) (.int .i64 0) (.bool false);rw [← hw5] at Fw5;have D5:=Lib.hid (D3.out.putR Fw5);clear hw5 Fw5 q)))
    refine bodyPost_ret (results_ct rfl _ _ (w.heap.size + 1 + 1 + 1) 57 #[.slice none 0 0,.slice none 0 0,.int .i64 0,.bool false] (0,0) _ rfl D5.out.r Tryz.underlying57 rfl (by kernel_rfl)) rfl ?_
    exact DoPost.err D5.out.bl
set_option maxHeartbeats 8000000 in
set_option maxRecDepth 1000000 in
theorem do_swap {text : ByteArray} {w : World} (hT : Tabs w) (hP : PuzR A2 c2 bl A3 c3 ri A4 c4 be A5 c5 cells A6 c6 clues w) (hS : ShtR A7 c7 sc A8 c8 ss w) (hz : PuzS title cells clues) (hzs : Small sc) (h0 : scheck title H W bl ri be cells clues sc ss at_ = 0) (htl : text.toList = []) :
    Calls Tryz.prog 51 #[.agg #[.string title,.int .i64 H,.int .i64 W,.slice A2 bl.length c2,.slice A3 ri.length c3,.slice A4 be.length c4,.slice A5 cells.length c5,.slice A6 clues.length c6],.agg #[.slice A7 sc.length c7,.slice A8 ss.length c8,.int .i64 at_,.bool dn],.agg #[.int .i64 4,.int .i64 0,.string text]] w (DoPost w (sc,ss,at_,!dn,0)):=by
  have hck:=h0
  obtain ⟨hgc,hl0,hl1,hl2,ha0,ha1,hpos,h256⟩:=scheck_grid h0
  have hcp : sheet_copied.f sc ss at_ dn = some (sc,ss,at_,dn):=by unfold sheet_copied.f slices_Clone_string_string.f slices_Clone_bool_bool.f;rw [if_pos (by omega),if_pos (by omega)];rfl
  replace hck:=Lib.hid hck
  replace hcp:=Lib.hid hcp
  replace hgc:=Lib.hid hgc
  replace hl0:=Lib.hid hl0
  replace hl1:=Lib.hid hl1
  replace hl2:=Lib.hid hl2
  clear h0
  have hx:=box4 w (.cells #[.string title,.int .i64 H,.int .i64 W,.slice A2 bl.length c2,.slice A3 ri.length c3,.slice A4 be.length c4,.slice A5 cells.length c5,.slice A6 clues.length c6] 42) (.cells #[.slice A7 sc.length c7,.slice A8 ss.length c8,.int .i64 at_,.bool dn] 57) (.cells #[.int .i64 4,.int .i64 0,.string text] 35) (.cells #[.slice none 0 0,.slice none 0 0,.int .i64 0,.bool false] 57)
  replace hx:=Lib.hid hx
  have e4 : text.toList.isEmpty = true:=by rw [htl];rfl
  replace htl:=Lib.hid htl
  have hu30:=Tryz.underlying57
  have hu36:=Tryz.underlying35
  have hu27:=Tryz.underlying42
  have hu24:=Tryz.underlying39
  go_enter Tryz.func51,Tryz.ntmps51
  go_wp2_with (first | (go_at_call 63;go_must (refine (check_calls (tabs_below hT hx.out.2.2.2.2) (hP.below hx.out.2.2.2.2) (hS.below hx.out.2.2.2.2) hz hzs).mono ?_;rintro e w3 ⟨rfl,hb3⟩;rw [hck.out];have D3:=Lib.hid (DoW.below (w:=w) (⟨hx.out.1,hx.out.2.1,hx.out.2.2.1,hx.out.2.2.2.1,Kd.R_nil _ _ _ _ _,Kd.R_nil _ _ _ _ _,hx.out.2.2.2.2⟩ : DoW w _ _ _ _ _ (.slice none 0 0) (.slice none 0 0) [] []) hb3);clear hb3;have q:=doFacts D3.out)) | (go_at_call 64;go_must (refine (sheet_copied.calls _ c7 sc _ c8 ss at_ dn _ _ _ _ _ (hS.below D3.out.bl).r7 hS.k7 (hS.below D3.out.bl).r8 hS.k8 hcp.out).mono ?_;rintro e w4 ⟨v0,v1,rfl,hr0,hr1,hb4⟩;obtain ⟨g0,k0,rfl⟩:=R_form_n hr0 (n:=sc.length) rfl (by have:=hl0.out;omega);obtain ⟨g1,k1,rfl⟩:=R_form_n hr1 (n:=ss.length) rfl (by have:=hl1.out;omega);have D4a:=DoW.below D3.out hb4;have D4:=Lib.hid (⟨D4a.p,D4a.s,D4a.a,D4a.r,Kd.R_lower hr0 D3.out.bl.size,Kd.R_lower hr1 D3.out.bl.size,D4a.bl⟩ : DoW w w4 _ _ _ _ (.slice (some ⟨g0,0,none⟩) sc.length k0) (.slice (some ⟨g1,0,none⟩) ss.length k1) sc ss);clear q;clear D4a hr0 hr1 hb4;have q:=doFacts D4.out)) | ((with_reducible refine gate_store (t:=57) (p:=4) (v:=.tmp 48) rfl ?_);go_must (refine store_event (w1:=put4 w4 (w.heap.size + 1) (.slice (some ⟨g0,0,none⟩) sc.length k0) (.slice (some ⟨g1,0,none⟩) ss.length k1) (.int .i64 at_) (.bool dn)) (by rfl) (by rfl) (by rfl) ?hr ?_;(case hr=>first | (go_simp;done) | (go_simp;rfl));intro w5 hw5;have Fw5:=put4_facts D4.out.s (.slice (some ⟨g0,0,none⟩) sc.length k0) (.slice (some ⟨g1,0,none⟩) ss.length k1) (.int .i64 at_) (.bool dn);rw [← hw5] at Fw5;have D5:=Lib.hid (D4.out.putS Fw5);clear hw5 Fw5 q;have q:=doFacts D5.out)) | ((with_reducible refine gate_store (t:=4) (p:=113) (v:=.tmp 112) rfl ?_);go_must (refine store_event (w1:=w5.setCell ⟨w.heap.size + 1,3,none⟩ (.bool (!dn))) (by rfl) (by rfl) (by rfl) ?hr ?_;(case hr=>first | (go_simp;done) | (go_simp;rfl));intro w6 hw6;have Fw6:=one_facts (cs':=#[.slice (some ⟨g0,0,none⟩) sc.length k0,.slice (some ⟨g1,0,none⟩) ss.length k1,.int .i64 at_,.bool (!dn)]) (i:=3) D5.out.s (.bool (!dn)) rfl;rw [← hw6] at Fw6;have D6:=Lib.hid (D5.out.putS Fw6);clear hw6 Fw6 q;have q:=doFacts D6.out)) | ((with_reducible refine gate_store (t:=57) (p:=6) (v:=.tmp 149) rfl ?_);go_must (refine store_event (w1:=put4 w6 (w.heap.size + 1 + 1 + 1) (.slice (some ⟨g0,0,none⟩) sc.length k0) (.slice (some ⟨g1,0,none⟩) ss.length k1) (.int .i64 at_) (.bool (!dn))) (by rfl) (by rfl) (by rfl) ?hr ?_;(case hr=>first | (go_simp;done) | (go_simp;rfl));intro w9 hw9;have Fw9:=put4_facts D6.out.r (.slice (some ⟨g0,0,none⟩) sc.length k0) (.slice (some ⟨g1,0,none⟩) ss.length k1) (.int .i64 at_) (.bool (!dn));rw [← hw9] at Fw9;have D9:=Lib.hid (D6.out.putR Fw9);clear hw9 Fw9 q)))
  refine bodyPost_ret (results_ct rfl _ _ (w.heap.size + 1 + 1 + 1) 57 #[.slice (some ⟨g0,0,none⟩) sc.length k0,.slice (some ⟨g1,0,none⟩) ss.length k1,.int .i64 at_,.bool (!dn)] (0,0) _ rfl D9.out.r Tryz.underlying57 rfl (by kernel_rfl)) rfl ?_
  exact ⟨_,_,rfl,D9.out.x,D9.out.b,D9.out.bl⟩
set_option maxHeartbeats 8000000 in
set_option maxRecDepth 1000000 in
theorem do_move_no {cell : Int} {text : ByteArray} {w : World} (hT : Tabs w) (hP : PuzR A2 c2 bl A3 c3 ri A4 c4 be A5 c5 cells A6 c6 clues w) (hS : ShtR A7 c7 sc A8 c8 ss w) (hz : PuzS title cells clues) (hzs : Small sc) (h0 : scheck title H W bl ri be cells clues sc ss at_ = 0) (htl : text.toList = []) (ho : gopen bl cell = false) :
    Calls Tryz.prog 51 #[.agg #[.string title,.int .i64 H,.int .i64 W,.slice A2 bl.length c2,.slice A3 ri.length c3,.slice A4 be.length c4,.slice A5 cells.length c5,.slice A6 clues.length c6],.agg #[.slice A7 sc.length c7,.slice A8 ss.length c8,.int .i64 at_,.bool dn],.agg #[.int .i64 3,.int .i64 cell,.string text]] w (DoPost w (doErr 230)):=by
  have hck:=h0
  obtain ⟨hgc,hl0,hl1,hl2,ha0,ha1,hpos,h256⟩:=scheck_grid h0
  have hcp : sheet_copied.f sc ss at_ dn = some (sc,ss,at_,dn):=by unfold sheet_copied.f slices_Clone_string_string.f slices_Clone_bool_bool.f;rw [if_pos (by omega),if_pos (by omega)];rfl
  replace hck:=Lib.hid hck
  replace hcp:=Lib.hid hcp
  replace hgc:=Lib.hid hgc
  replace hl0:=Lib.hid hl0
  replace hl1:=Lib.hid hl1
  replace hl2:=Lib.hid hl2
  clear h0
  have hx:=box4 w (.cells #[.string title,.int .i64 H,.int .i64 W,.slice A2 bl.length c2,.slice A3 ri.length c3,.slice A4 be.length c4,.slice A5 cells.length c5,.slice A6 clues.length c6] 42) (.cells #[.slice A7 sc.length c7,.slice A8 ss.length c8,.int .i64 at_,.bool dn] 57) (.cells #[.int .i64 3,.int .i64 cell,.string text] 35) (.cells #[.slice none 0 0,.slice none 0 0,.int .i64 0,.bool false] 57)
  replace hx:=Lib.hid hx
  have e4 : text.toList.isEmpty = true:=by rw [htl];rfl
  replace htl:=Lib.hid htl
  have hu30:=Tryz.underlying57
  have hu36:=Tryz.underlying35
  have hu27:=Tryz.underlying42
  have hu24:=Tryz.underlying39
  have hop:=grid_Open_eq H W bl ri be cell (bl.length + 3) (Nat.le_refl _)
  rw [decide_eq_true hgc.out,Bool.true_and] at hop
  rw [ho] at hop
  replace hop:=Lib.hid hop
  clear ho
  go_enter Tryz.func51,Tryz.ntmps51
  go_wp2_with (first | (go_at_call 63;go_must (refine (check_calls (tabs_below hT hx.out.2.2.2.2) (hP.below hx.out.2.2.2.2) (hS.below hx.out.2.2.2.2) hz hzs).mono ?_;rintro e w3 ⟨rfl,hb3⟩;rw [hck.out];have D3:=Lib.hid (DoW.below (w:=w) (⟨hx.out.1,hx.out.2.1,hx.out.2.2.1,hx.out.2.2.2.1,Kd.R_nil _ _ _ _ _,Kd.R_nil _ _ _ _ _,hx.out.2.2.2.2⟩ : DoW w _ _ _ _ _ (.slice none 0 0) (.slice none 0 0) [] []) hb3);clear hb3;have q:=doFacts D3.out)) | (go_at_call 64;go_must (refine (sheet_copied.calls _ c7 sc _ c8 ss at_ dn _ _ _ _ _ (hS.below D3.out.bl).r7 hS.k7 (hS.below D3.out.bl).r8 hS.k8 hcp.out).mono ?_;rintro e w4 ⟨v0,v1,rfl,hr0,hr1,hb4⟩;obtain ⟨g0,k0,rfl⟩:=R_form_n hr0 (n:=sc.length) rfl (by have:=hl0.out;omega);obtain ⟨g1,k1,rfl⟩:=R_form_n hr1 (n:=ss.length) rfl (by have:=hl1.out;omega);have D4a:=DoW.below D3.out hb4;have D4:=Lib.hid (⟨D4a.p,D4a.s,D4a.a,D4a.r,Kd.R_lower hr0 D3.out.bl.size,Kd.R_lower hr1 D3.out.bl.size,D4a.bl⟩ : DoW w w4 _ _ _ _ (.slice (some ⟨g0,0,none⟩) sc.length k0) (.slice (some ⟨g1,0,none⟩) ss.length k1) sc ss);clear q;clear D4a hr0 hr1 hb4;have q:=doFacts D4.out)) | ((with_reducible refine gate_store (t:=57) (p:=4) (v:=.tmp 48) rfl ?_);go_must (refine store_event (w1:=put4 w4 (w.heap.size + 1) (.slice (some ⟨g0,0,none⟩) sc.length k0) (.slice (some ⟨g1,0,none⟩) ss.length k1) (.int .i64 at_) (.bool dn)) (by rfl) (by rfl) (by rfl) ?hr ?_;(case hr=>first | (go_simp;done) | (go_simp;rfl));intro w5 hw5;have Fw5:=put4_facts D4.out.s (.slice (some ⟨g0,0,none⟩) sc.length k0) (.slice (some ⟨g1,0,none⟩) ss.length k1) (.int .i64 at_) (.bool dn);rw [← hw5] at Fw5;have D5:=Lib.hid (D4.out.putS Fw5);clear hw5 Fw5 q;have q:=doFacts D5.out)) | (go_at_call 69;go_must (refine (grid_Open.calls (bl.length + 3) H W _ c2 bl _ c3 ri _ c4 be cell _ _ (hP.below D5.out.bl).r2 hP.k2 (hP.below D5.out.bl).r3 hP.k3 (hP.below D5.out.bl).r4 hP.k4 hop.out).mono ?_;rintro e w6 ⟨rfl,hb6⟩;have D6:=Lib.hid (D5.out.below hb6);clear hb6;clear q;have q:=doFacts D6.out)) | ((with_reducible refine gate_store (t:=57) (p:=6) (v:=.tmp 101) rfl ?_);go_must (refine store_event (w1:=put4 w6 (w.heap.size + 1 + 1 + 1) (.slice none 0 0) (.slice none 0 0) (.int .i64 0) (.bool false)) (by rfl) (by rfl) (by rfl) ?hr ?_;(case hr=>first | (go_simp;done) | (go_simp;rfl));intro w9 hw9;have Fw9:=put4_facts D6.out.r (.slice none 0 0) (.slice none 0 0) (.int .i64 0) (.bool false);rw [← hw9] at Fw9;have D9:=Lib.hid (D6.out.putR Fw9);clear hw9 Fw9 q)))
  refine bodyPost_ret (results_ct rfl _ _ (w.heap.size + 1 + 1 + 1) 57 #[.slice none 0 0,.slice none 0 0,.int .i64 0,.bool false] (0,0) _ rfl D9.out.r Tryz.underlying57 rfl (by kernel_rfl)) rfl ?_
  exact DoPost.err D9.out.bl
set_option maxHeartbeats 8000000 in
set_option maxRecDepth 1000000 in
theorem do_move_on {cell : Int} {text : ByteArray} {w : World} (hT : Tabs w) (hP : PuzR A2 c2 bl A3 c3 ri A4 c4 be A5 c5 cells A6 c6 clues w) (hS : ShtR A7 c7 sc A8 c8 ss w) (hz : PuzS title cells clues) (hzs : Small sc) (h0 : scheck title H W bl ri be cells clues sc ss at_ = 0) (htl : text.toList = []) (ho : gopen bl cell = true) (hn : cell ≠ at_) :
    Calls Tryz.prog 51 #[.agg #[.string title,.int .i64 H,.int .i64 W,.slice A2 bl.length c2,.slice A3 ri.length c3,.slice A4 be.length c4,.slice A5 cells.length c5,.slice A6 clues.length c6],.agg #[.slice A7 sc.length c7,.slice A8 ss.length c8,.int .i64 at_,.bool dn],.agg #[.int .i64 3,.int .i64 cell,.string text]] w (DoPost w (sc,ss,cell,dn,0)):=by
  have hck:=h0
  obtain ⟨hgc,hl0,hl1,hl2,ha0,ha1,hpos,h256⟩:=scheck_grid h0
  have hcp : sheet_copied.f sc ss at_ dn = some (sc,ss,at_,dn):=by unfold sheet_copied.f slices_Clone_string_string.f slices_Clone_bool_bool.f;rw [if_pos (by omega),if_pos (by omega)];rfl
  replace hck:=Lib.hid hck
  replace hcp:=Lib.hid hcp
  replace hgc:=Lib.hid hgc
  replace hl0:=Lib.hid hl0
  replace hl1:=Lib.hid hl1
  replace hl2:=Lib.hid hl2
  clear h0
  have hx:=box4 w (.cells #[.string title,.int .i64 H,.int .i64 W,.slice A2 bl.length c2,.slice A3 ri.length c3,.slice A4 be.length c4,.slice A5 cells.length c5,.slice A6 clues.length c6] 42) (.cells #[.slice A7 sc.length c7,.slice A8 ss.length c8,.int .i64 at_,.bool dn] 57) (.cells #[.int .i64 3,.int .i64 cell,.string text] 35) (.cells #[.slice none 0 0,.slice none 0 0,.int .i64 0,.bool false] 57)
  replace hx:=Lib.hid hx
  have e4 : text.toList.isEmpty = true:=by rw [htl];rfl
  replace htl:=Lib.hid htl
  have hu30:=Tryz.underlying57
  have hu36:=Tryz.underlying35
  have hu27:=Tryz.underlying42
  have hu24:=Tryz.underlying39
  have hop:=grid_Open_eq H W bl ri be cell (bl.length + 3) (Nat.le_refl _)
  rw [decide_eq_true hgc.out,Bool.true_and] at hop
  rw [ho] at hop
  replace hop:=Lib.hid hop
  clear ho
  have t6 : (cell != at_) = true:=bne_iff_ne.2 hn
  clear hn
  go_enter Tryz.func51,Tryz.ntmps51
  go_wp2_with (first | (go_at_call 63;go_must (refine (check_calls (tabs_below hT hx.out.2.2.2.2) (hP.below hx.out.2.2.2.2) (hS.below hx.out.2.2.2.2) hz hzs).mono ?_;rintro e w3 ⟨rfl,hb3⟩;rw [hck.out];have D3:=Lib.hid (DoW.below (w:=w) (⟨hx.out.1,hx.out.2.1,hx.out.2.2.1,hx.out.2.2.2.1,Kd.R_nil _ _ _ _ _,Kd.R_nil _ _ _ _ _,hx.out.2.2.2.2⟩ : DoW w _ _ _ _ _ (.slice none 0 0) (.slice none 0 0) [] []) hb3);clear hb3;have q:=doFacts D3.out)) | (go_at_call 64;go_must (refine (sheet_copied.calls _ c7 sc _ c8 ss at_ dn _ _ _ _ _ (hS.below D3.out.bl).r7 hS.k7 (hS.below D3.out.bl).r8 hS.k8 hcp.out).mono ?_;rintro e w4 ⟨v0,v1,rfl,hr0,hr1,hb4⟩;obtain ⟨g0,k0,rfl⟩:=R_form_n hr0 (n:=sc.length) rfl (by have:=hl0.out;omega);obtain ⟨g1,k1,rfl⟩:=R_form_n hr1 (n:=ss.length) rfl (by have:=hl1.out;omega);have D4a:=DoW.below D3.out hb4;have D4:=Lib.hid (⟨D4a.p,D4a.s,D4a.a,D4a.r,Kd.R_lower hr0 D3.out.bl.size,Kd.R_lower hr1 D3.out.bl.size,D4a.bl⟩ : DoW w w4 _ _ _ _ (.slice (some ⟨g0,0,none⟩) sc.length k0) (.slice (some ⟨g1,0,none⟩) ss.length k1) sc ss);clear q;clear D4a hr0 hr1 hb4;have q:=doFacts D4.out)) | ((with_reducible refine gate_store (t:=57) (p:=4) (v:=.tmp 48) rfl ?_);go_must (refine store_event (w1:=put4 w4 (w.heap.size + 1) (.slice (some ⟨g0,0,none⟩) sc.length k0) (.slice (some ⟨g1,0,none⟩) ss.length k1) (.int .i64 at_) (.bool dn)) (by rfl) (by rfl) (by rfl) ?hr ?_;(case hr=>first | (go_simp;done) | (go_simp;rfl));intro w5 hw5;have Fw5:=put4_facts D4.out.s (.slice (some ⟨g0,0,none⟩) sc.length k0) (.slice (some ⟨g1,0,none⟩) ss.length k1) (.int .i64 at_) (.bool dn);rw [← hw5] at Fw5;have D5:=Lib.hid (D4.out.putS Fw5);clear hw5 Fw5 q;have q:=doFacts D5.out)) | (go_at_call 69;go_must (refine (grid_Open.calls (bl.length + 3) H W _ c2 bl _ c3 ri _ c4 be cell _ _ (hP.below D5.out.bl).r2 hP.k2 (hP.below D5.out.bl).r3 hP.k3 (hP.below D5.out.bl).r4 hP.k4 hop.out).mono ?_;rintro e w6 ⟨rfl,hb6⟩;have D6:=Lib.hid (D5.out.below hb6);clear hb6;clear q;have q:=doFacts D6.out)) | ((with_reducible refine gate_store (t:=3) (p:=109) (v:=.tmp 108) rfl ?_);go_must (refine store_event (w1:=w6.setCell ⟨w.heap.size + 1,2,none⟩ (.int .i64 cell)) (by rfl) (by rfl) (by rfl) ?hr ?_;(case hr=>first | (go_simp;done) | (go_simp;rfl));intro w7 hw7;have Fw7:=one_facts (cs':=#[.slice (some ⟨g0,0,none⟩) sc.length k0,.slice (some ⟨g1,0,none⟩) ss.length k1,.int .i64 cell,.bool dn]) (i:=2) D6.out.s (.int .i64 cell) rfl;rw [← hw7] at Fw7;have D7:=Lib.hid (D6.out.putS Fw7);clear hw7 Fw7 q;have q:=doFacts D7.out)) | ((with_reducible refine gate_store (t:=57) (p:=6) (v:=.tmp 149) rfl ?_);go_must (refine store_event (w1:=put4 w7 (w.heap.size + 1 + 1 + 1) (.slice (some ⟨g0,0,none⟩) sc.length k0) (.slice (some ⟨g1,0,none⟩) ss.length k1) (.int .i64 cell) (.bool dn)) (by rfl) (by rfl) (by rfl) ?hr ?_;(case hr=>first | (go_simp;done) | (go_simp;rfl));intro w9 hw9;have Fw9:=put4_facts D7.out.r (.slice (some ⟨g0,0,none⟩) sc.length k0) (.slice (some ⟨g1,0,none⟩) ss.length k1) (.int .i64 cell) (.bool dn);rw [← hw9] at Fw9;have D9:=Lib.hid (D7.out.putR Fw9);clear hw9 Fw9 q)))
  refine bodyPost_ret (results_ct rfl _ _ (w.heap.size + 1 + 1 + 1) 57 #[.slice (some ⟨g0,0,none⟩) sc.length k0,.slice (some ⟨g1,0,none⟩) ss.length k1,.int .i64 cell,.bool dn] (0,0) _ rfl D9.out.r Tryz.underlying57 rfl (by kernel_rfl)) rfl ?_
  exact ⟨_,_,rfl,D9.out.x,D9.out.b,D9.out.bl⟩
set_option maxHeartbeats 8000000 in
set_option maxRecDepth 1000000 in
theorem do_move_at {cell : Int} {text : ByteArray} {w : World} (hT : Tabs w) (hP : PuzR A2 c2 bl A3 c3 ri A4 c4 be A5 c5 cells A6 c6 clues w) (hS : ShtR A7 c7 sc A8 c8 ss w) (hz : PuzS title cells clues) (hzs : Small sc) (h0 : scheck title H W bl ri be cells clues sc ss at_ = 0) (htl : text.toList = []) (ho : gopen bl cell = true) (hn : cell = at_) :
    Calls Tryz.prog 51 #[.agg #[.string title,.int .i64 H,.int .i64 W,.slice A2 bl.length c2,.slice A3 ri.length c3,.slice A4 be.length c4,.slice A5 cells.length c5,.slice A6 clues.length c6],.agg #[.slice A7 sc.length c7,.slice A8 ss.length c8,.int .i64 at_,.bool dn],.agg #[.int .i64 3,.int .i64 cell,.string text]] w (DoPost w (sc,ss,at_,!dn,0)):=by
  have hck:=h0
  obtain ⟨hgc,hl0,hl1,hl2,ha0,ha1,hpos,h256⟩:=scheck_grid h0
  have hcp : sheet_copied.f sc ss at_ dn = some (sc,ss,at_,dn):=by unfold sheet_copied.f slices_Clone_string_string.f slices_Clone_bool_bool.f;rw [if_pos (by omega),if_pos (by omega)];rfl
  replace hck:=Lib.hid hck
  replace hcp:=Lib.hid hcp
  replace hgc:=Lib.hid hgc
  replace hl0:=Lib.hid hl0
  replace hl1:=Lib.hid hl1
  replace hl2:=Lib.hid hl2
  clear h0
  have hx:=box4 w (.cells #[.string title,.int .i64 H,.int .i64 W,.slice A2 bl.length c2,.slice A3 ri.length c3,.slice A4 be.length c4,.slice A5 cells.length c5,.slice A6 clues.length c6] 42) (.cells #[.slice A7 sc.length c7,.slice A8 ss.length c8,.int .i64 at_,.bool dn] 57) (.cells #[.int .i64 3,.int .i64 cell,.string text] 35) (.cells #[.slice none 0 0,.slice none 0 0,.int .i64 0,.bool false] 57)
  replace hx:=Lib.hid hx
  have e4 : text.toList.isEmpty = true:=by rw [htl];rfl
  replace htl:=Lib.hid htl
  have hu30:=Tryz.underlying57
  have hu36:=Tryz.underlying35
  have hu27:=Tryz.underlying42
  have hu24:=Tryz.underlying39
  have hop:=grid_Open_eq H W bl ri be cell (bl.length + 3) (Nat.le_refl _)
  rw [decide_eq_true hgc.out,Bool.true_and] at hop
  rw [ho] at hop
  replace hop:=Lib.hid hop
  clear ho
  have t6 : (cell != at_) = false:=by rw [hn];simp
  clear hn
  go_enter Tryz.func51,Tryz.ntmps51
  go_wp2_with (first | (go_at_call 63;go_must (refine (check_calls (tabs_below hT hx.out.2.2.2.2) (hP.below hx.out.2.2.2.2) (hS.below hx.out.2.2.2.2) hz hzs).mono ?_;rintro e w3 ⟨rfl,hb3⟩;rw [hck.out];have D3:=Lib.hid (DoW.below (w:=w) (⟨hx.out.1,hx.out.2.1,hx.out.2.2.1,hx.out.2.2.2.1,Kd.R_nil _ _ _ _ _,Kd.R_nil _ _ _ _ _,hx.out.2.2.2.2⟩ : DoW w _ _ _ _ _ (.slice none 0 0) (.slice none 0 0) [] []) hb3);clear hb3;have q:=doFacts D3.out)) | (go_at_call 64;go_must (refine (sheet_copied.calls _ c7 sc _ c8 ss at_ dn _ _ _ _ _ (hS.below D3.out.bl).r7 hS.k7 (hS.below D3.out.bl).r8 hS.k8 hcp.out).mono ?_;rintro e w4 ⟨v0,v1,rfl,hr0,hr1,hb4⟩;obtain ⟨g0,k0,rfl⟩:=R_form_n hr0 (n:=sc.length) rfl (by have:=hl0.out;omega);obtain ⟨g1,k1,rfl⟩:=R_form_n hr1 (n:=ss.length) rfl (by have:=hl1.out;omega);have D4a:=DoW.below D3.out hb4;have D4:=Lib.hid (⟨D4a.p,D4a.s,D4a.a,D4a.r,Kd.R_lower hr0 D3.out.bl.size,Kd.R_lower hr1 D3.out.bl.size,D4a.bl⟩ : DoW w w4 _ _ _ _ (.slice (some ⟨g0,0,none⟩) sc.length k0) (.slice (some ⟨g1,0,none⟩) ss.length k1) sc ss);clear q;clear D4a hr0 hr1 hb4;have q:=doFacts D4.out)) | ((with_reducible refine gate_store (t:=57) (p:=4) (v:=.tmp 48) rfl ?_);go_must (refine store_event (w1:=put4 w4 (w.heap.size + 1) (.slice (some ⟨g0,0,none⟩) sc.length k0) (.slice (some ⟨g1,0,none⟩) ss.length k1) (.int .i64 at_) (.bool dn)) (by rfl) (by rfl) (by rfl) ?hr ?_;(case hr=>first | (go_simp;done) | (go_simp;rfl));intro w5 hw5;have Fw5:=put4_facts D4.out.s (.slice (some ⟨g0,0,none⟩) sc.length k0) (.slice (some ⟨g1,0,none⟩) ss.length k1) (.int .i64 at_) (.bool dn);rw [← hw5] at Fw5;have D5:=Lib.hid (D4.out.putS Fw5);clear hw5 Fw5 q;have q:=doFacts D5.out)) | (go_at_call 69;go_must (refine (grid_Open.calls (bl.length + 3) H W _ c2 bl _ c3 ri _ c4 be cell _ _ (hP.below D5.out.bl).r2 hP.k2 (hP.below D5.out.bl).r3 hP.k3 (hP.below D5.out.bl).r4 hP.k4 hop.out).mono ?_;rintro e w6 ⟨rfl,hb6⟩;have D6:=Lib.hid (D5.out.below hb6);clear hb6;clear q;have q:=doFacts D6.out)) | ((with_reducible refine gate_store (t:=4) (p:=113) (v:=.tmp 112) rfl ?_);go_must (refine store_event (w1:=w6.setCell ⟨w.heap.size + 1,3,none⟩ (.bool (!dn))) (by rfl) (by rfl) (by rfl) ?hr ?_;(case hr=>first | (go_simp;done) | (go_simp;rfl));intro w7 hw7;have Fw7:=one_facts (cs':=#[.slice (some ⟨g0,0,none⟩) sc.length k0,.slice (some ⟨g1,0,none⟩) ss.length k1,.int .i64 at_,.bool (!dn)]) (i:=3) D6.out.s (.bool (!dn)) rfl;rw [← hw7] at Fw7;have D7:=Lib.hid (D6.out.putS Fw7);clear hw7 Fw7 q;have q:=doFacts D7.out)) | ((with_reducible refine gate_store (t:=57) (p:=6) (v:=.tmp 149) rfl ?_);go_must (refine store_event (w1:=put4 w7 (w.heap.size + 1 + 1 + 1) (.slice (some ⟨g0,0,none⟩) sc.length k0) (.slice (some ⟨g1,0,none⟩) ss.length k1) (.int .i64 at_) (.bool (!dn))) (by rfl) (by rfl) (by rfl) ?hr ?_;(case hr=>first | (go_simp;done) | (go_simp;rfl));intro w9 hw9;have Fw9:=put4_facts D7.out.r (.slice (some ⟨g0,0,none⟩) sc.length k0) (.slice (some ⟨g1,0,none⟩) ss.length k1) (.int .i64 at_) (.bool (!dn));rw [← hw9] at Fw9;have D9:=Lib.hid (D7.out.putR Fw9);clear hw9 Fw9 q)))
  refine bodyPost_ret (results_ct rfl _ _ (w.heap.size + 1 + 1 + 1) 57 #[.slice (some ⟨g0,0,none⟩) sc.length k0,.slice (some ⟨g1,0,none⟩) ss.length k1,.int .i64 at_,.bool (!dn)] (0,0) _ rfl D9.out.r Tryz.underlying57 rfl (by kernel_rfl)) rfl ?_
  exact ⟨_,_,rfl,D9.out.x,D9.out.b,D9.out.bl⟩
set_option maxHeartbeats 8000000 in
set_option maxRecDepth 1000000 in
theorem do_reveal_no {text : ByteArray} {w : World} (hT : Tabs w) (hP : PuzR A2 c2 bl A3 c3 ri A4 c4 be A5 c5 cells A6 c6 clues w) (hS : ShtR A7 c7 sc A8 c8 ss w) (hz : PuzS title cells clues) (hzs : Small sc) (h0 : scheck title H W bl ri be cells clues sc ss at_ = 0) (htl : text.toList = []) (he : emptyAt cells at_ = true) :
    Calls Tryz.prog 51 #[.agg #[.string title,.int .i64 H,.int .i64 W,.slice A2 bl.length c2,.slice A3 ri.length c3,.slice A4 be.length c4,.slice A5 cells.length c5,.slice A6 clues.length c6],.agg #[.slice A7 sc.length c7,.slice A8 ss.length c8,.int .i64 at_,.bool dn],.agg #[.int .i64 6,.int .i64 0,.string text]] w (DoPost w (doErr 140)):=by
  have hck:=h0
  obtain ⟨hgc,hl0,hl1,hl2,ha0,ha1,hpos,h256⟩:=scheck_grid h0
  have hcp : sheet_copied.f sc ss at_ dn = some (sc,ss,at_,dn):=by unfold sheet_copied.f slices_Clone_string_string.f slices_Clone_bool_bool.f;rw [if_pos (by omega),if_pos (by omega)];rfl
  replace hck:=Lib.hid hck
  replace hcp:=Lib.hid hcp
  replace hgc:=Lib.hid hgc
  replace hl0:=Lib.hid hl0
  replace hl1:=Lib.hid hl1
  replace hl2:=Lib.hid hl2
  clear h0
  have hx:=box4 w (.cells #[.string title,.int .i64 H,.int .i64 W,.slice A2 bl.length c2,.slice A3 ri.length c3,.slice A4 be.length c4,.slice A5 cells.length c5,.slice A6 clues.length c6] 42) (.cells #[.slice A7 sc.length c7,.slice A8 ss.length c8,.int .i64 at_,.bool dn] 57) (.cells #[.int .i64 6,.int .i64 0,.string text] 35) (.cells #[.slice none 0 0,.slice none 0 0,.int .i64 0,.bool false] 57)
  replace hx:=Lib.hid hx
  have e4 : text.toList.isEmpty = true:=by rw [htl];rfl
  replace htl:=Lib.hid htl
  have hu30:=Tryz.underlying57
  have hu36:=Tryz.underlying35
  have hu27:=Tryz.underlying42
  have hu24:=Tryz.underlying39
  obtain ⟨adp,eA,zp⟩:=Kd.at_string hP.r5 at_ ha0 (by have:=hl2.out;omega)
  cases eA
  obtain ⟨pt,hpt⟩ : ∃ t,rdOf ByteArray.empty cells at_ = t:=⟨_,rfl⟩
  rw [hpt] at zp
  have te : pt.toList.isEmpty = true:=by rw [← hpt];exact he
  have tp1 : at_ < (cells.length : Int):=by have:=hl2.out;omega
  clear he
  replace hpt:=Lib.hid hpt
  replace zp:=Lib.hid zp
  go_enter Tryz.func51,Tryz.ntmps51
  go_wp2_with (first | (go_at_call 63;go_must (refine (check_calls (tabs_below hT hx.out.2.2.2.2) (hP.below hx.out.2.2.2.2) (hS.below hx.out.2.2.2.2) hz hzs).mono ?_;rintro e w3 ⟨rfl,hb3⟩;rw [hck.out];have D3:=Lib.hid (DoW.below (w:=w) (⟨hx.out.1,hx.out.2.1,hx.out.2.2.1,hx.out.2.2.2.1,Kd.R_nil _ _ _ _ _,Kd.R_nil _ _ _ _ _,hx.out.2.2.2.2⟩ : DoW w _ _ _ _ _ (.slice none 0 0) (.slice none 0 0) [] []) hb3);clear hb3;have q:=doFacts D3.out)) | (go_at_call 64;go_must (refine (sheet_copied.calls _ c7 sc _ c8 ss at_ dn _ _ _ _ _ (hS.below D3.out.bl).r7 hS.k7 (hS.below D3.out.bl).r8 hS.k8 hcp.out).mono ?_;rintro e w4 ⟨v0,v1,rfl,hr0,hr1,hb4⟩;obtain ⟨g0,k0,rfl⟩:=R_form_n hr0 (n:=sc.length) rfl (by have:=hl0.out;omega);obtain ⟨g1,k1,rfl⟩:=R_form_n hr1 (n:=ss.length) rfl (by have:=hl1.out;omega);have D4a:=DoW.below D3.out hb4;have D4:=Lib.hid (⟨D4a.p,D4a.s,D4a.a,D4a.r,Kd.R_lower hr0 D3.out.bl.size,Kd.R_lower hr1 D3.out.bl.size,D4a.bl⟩ : DoW w w4 _ _ _ _ (.slice (some ⟨g0,0,none⟩) sc.length k0) (.slice (some ⟨g1,0,none⟩) ss.length k1) sc ss);clear q;clear D4a hr0 hr1 hb4;have q:=doFacts D4.out)) | ((with_reducible refine gate_store (t:=57) (p:=4) (v:=.tmp 48) rfl ?_);go_must (refine store_event (w1:=put4 w4 (w.heap.size + 1) (.slice (some ⟨g0,0,none⟩) sc.length k0) (.slice (some ⟨g1,0,none⟩) ss.length k1) (.int .i64 at_) (.bool dn)) (by rfl) (by rfl) (by rfl) ?hr ?_;(case hr=>first | (go_simp;done) | (go_simp;rfl));intro w5 hw5;have Fw5:=put4_facts D4.out.s (.slice (some ⟨g0,0,none⟩) sc.length k0) (.slice (some ⟨g1,0,none⟩) ss.length k1) (.int .i64 at_) (.bool dn);rw [← hw5] at Fw5;have D5:=Lib.hid (D4.out.putS Fw5);clear hw5 Fw5 q;have q:=doFacts D5.out;have zp5:=pw_cell_below D5.out.bl zp.out)) | ((with_reducible refine gate_store (t:=57) (p:=6) (v:=.tmp 142) rfl ?_);go_must (refine store_event (w1:=put4 w5 (w.heap.size + 1 + 1 + 1) (.slice none 0 0) (.slice none 0 0) (.int .i64 0) (.bool false)) (by rfl) (by rfl) (by rfl) ?hr ?_;(case hr=>first | (go_simp;done) | (go_simp;rfl));intro w9 hw9;have Fw9:=put4_facts D5.out.r (.slice none 0 0) (.slice none 0 0) (.int .i64 0) (.bool false);rw [← hw9] at Fw9;have D9:=Lib.hid (D5.out.putR Fw9);clear hw9 Fw9 q)))
  refine bodyPost_ret (results_ct rfl _ _ (w.heap.size + 1 + 1 + 1) 57 #[.slice none 0 0,.slice none 0 0,.int .i64 0,.bool false] (0,0) _ rfl D9.out.r Tryz.underlying57 rfl (by kernel_rfl)) rfl ?_
  exact DoPost.err D9.out.bl
set_option maxHeartbeats 8000000 in
set_option maxRecDepth 1000000 in
theorem do_reveal {text : ByteArray} {w : World} (hT : Tabs w) (hP : PuzR A2 c2 bl A3 c3 ri A4 c4 be A5 c5 cells A6 c6 clues w) (hS : ShtR A7 c7 sc A8 c8 ss w) (hz : PuzS title cells clues) (hzs : Small sc) (h0 : scheck title H W bl ri be cells clues sc ss at_ = 0) (htl : text.toList = []) (he : emptyAt cells at_ = false) :
    Calls Tryz.prog 51 #[.agg #[.string title,.int .i64 H,.int .i64 W,.slice A2 bl.length c2,.slice A3 ri.length c3,.slice A4 be.length c4,.slice A5 cells.length c5,.slice A6 clues.length c6],.agg #[.slice A7 sc.length c7,.slice A8 ss.length c8,.int .i64 at_,.bool dn],.agg #[.int .i64 6,.int .i64 0,.string text]] w (DoPost w (sc.set at_.toNat (rdOf ByteArray.empty cells at_),ss.set at_.toNat (!emptyAt cells at_),at_,dn,0)):=by
  have hck:=h0
  obtain ⟨hgc,hl0,hl1,hl2,ha0,ha1,hpos,h256⟩:=scheck_grid h0
  have hcp : sheet_copied.f sc ss at_ dn = some (sc,ss,at_,dn):=by unfold sheet_copied.f slices_Clone_string_string.f slices_Clone_bool_bool.f;rw [if_pos (by omega),if_pos (by omega)];rfl
  replace hck:=Lib.hid hck
  replace hcp:=Lib.hid hcp
  replace hgc:=Lib.hid hgc
  replace hl0:=Lib.hid hl0
  replace hl1:=Lib.hid hl1
  replace hl2:=Lib.hid hl2
  clear h0
  have hx:=box4 w (.cells #[.string title,.int .i64 H,.int .i64 W,.slice A2 bl.length c2,.slice A3 ri.length c3,.slice A4 be.length c4,.slice A5 cells.length c5,.slice A6 clues.length c6] 42) (.cells #[.slice A7 sc.length c7,.slice A8 ss.length c8,.int .i64 at_,.bool dn] 57) (.cells #[.int .i64 6,.int .i64 0,.string text] 35) (.cells #[.slice none 0 0,.slice none 0 0,.int .i64 0,.bool false] 57)
  replace hx:=Lib.hid hx
  have e4 : text.toList.isEmpty = true:=by rw [htl];rfl
  replace htl:=Lib.hid htl
  have hu30:=Tryz.underlying57
  have hu36:=Tryz.underlying35
  have hu27:=Tryz.underlying42
  have hu24:=Tryz.underlying39
  obtain ⟨adp,eA,zp⟩:=Kd.at_string hP.r5 at_ ha0 (by have:=hl2.out;omega)
  cases eA
  obtain ⟨pt,hpt⟩ : ∃ t,rdOf ByteArray.empty cells at_ = t:=⟨_,rfl⟩
  have hem : emptyAt cells at_ = pt.toList.isEmpty:=by rw [← hpt];rfl
  rw [hpt] at zp
  rw [hem] at he
  rw [hpt,hem]
  have tp1 : at_ < (cells.length : Int):=by have:=hl2.out;omega
  clear hem hpt
  replace zp:=Lib.hid zp
  go_enter Tryz.func51,Tryz.ntmps51
  go_wp2_with (first | (go_at_call 63;go_must (refine (check_calls (tabs_below hT hx.out.2.2.2.2) (hP.below hx.out.2.2.2.2) (hS.below hx.out.2.2.2.2) hz hzs).mono ?_;rintro e w3 ⟨rfl,hb3⟩;rw [hck.out];have D3:=Lib.hid (DoW.below (w:=w) (⟨hx.out.1,hx.out.2.1,hx.out.2.2.1,hx.out.2.2.2.1,Kd.R_nil _ _ _ _ _,Kd.R_nil _ _ _ _ _,hx.out.2.2.2.2⟩ : DoW w _ _ _ _ _ (.slice none 0 0) (.slice none 0 0) [] []) hb3);clear hb3;have q:=doFacts D3.out)) | (go_at_call 64;go_must (refine (sheet_copied.calls _ c7 sc _ c8 ss at_ dn _ _ _ _ _ (hS.below D3.out.bl).r7 hS.k7 (hS.below D3.out.bl).r8 hS.k8 hcp.out).mono ?_;rintro e w4 ⟨v0,v1,rfl,hr0,hr1,hb4⟩;obtain ⟨g0,k0,rfl⟩:=R_form_n hr0 (n:=sc.length) rfl (by have:=hl0.out;omega);obtain ⟨g1,k1,rfl⟩:=R_form_n hr1 (n:=ss.length) rfl (by have:=hl1.out;omega);have D4a:=DoW.below D3.out hb4;have D4:=Lib.hid (⟨D4a.p,D4a.s,D4a.a,D4a.r,Kd.R_lower hr0 D3.out.bl.size,Kd.R_lower hr1 D3.out.bl.size,D4a.bl⟩ : DoW w w4 _ _ _ _ (.slice (some ⟨g0,0,none⟩) sc.length k0) (.slice (some ⟨g1,0,none⟩) ss.length k1) sc ss);clear q;clear D4a hr0 hr1 hb4;have q:=doFacts D4.out)) | ((with_reducible refine gate_store (t:=57) (p:=4) (v:=.tmp 48) rfl ?_);go_must (refine store_event (w1:=put4 w4 (w.heap.size + 1) (.slice (some ⟨g0,0,none⟩) sc.length k0) (.slice (some ⟨g1,0,none⟩) ss.length k1) (.int .i64 at_) (.bool dn)) (by rfl) (by rfl) (by rfl) ?hr ?_;(case hr=>first | (go_simp;done) | (go_simp;rfl));intro w5 hw5;have Fw5:=put4_facts D4.out.s (.slice (some ⟨g0,0,none⟩) sc.length k0) (.slice (some ⟨g1,0,none⟩) ss.length k1) (.int .i64 at_) (.bool dn);rw [← hw5] at Fw5;have D5:=Lib.hid (D4.out.putS Fw5);clear hw5 Fw5 q;have q:=doFacts D5.out;have zp5:=pw_cell_below D5.out.bl zp.out)) | (go_at_call 67;go_must (refine (sheet_write.calls (w.heap.size + 1) w.heap.size g0 g1 k0 k1 sc ss (at_) dn (pt) _ D5.out.s D5.out.x D5.out.b ha0 (by have:=hl0.out;omega) (by have:=hl1.out;omega)).mono ?_;rintro e w6 ⟨rfl,hw1,hw2,hw3,hw4,hw5⟩;have D6:=Lib.hid (D5.out.written hw2 hw3 hw4 hw5);clear hw1 hw2 hw3 hw4 hw5;clear q;have q:=doFacts D6.out)) | ((with_reducible refine gate_store (t:=57) (p:=6) (v:=.tmp 149) rfl ?_);go_must (refine store_event (w1:=put4 w6 (w.heap.size + 1 + 1 + 1) (.slice (some ⟨g0,0,none⟩) sc.length k0) (.slice (some ⟨g1,0,none⟩) ss.length k1) (.int .i64 at_) (.bool dn)) (by rfl) (by rfl) (by rfl) ?hr ?_;(case hr=>first | (go_simp;done) | (go_simp;rfl));intro w9 hw9;have Fw9:=put4_facts D6.out.r (.slice (some ⟨g0,0,none⟩) sc.length k0) (.slice (some ⟨g1,0,none⟩) ss.length k1) (.int .i64 at_) (.bool dn);rw [← hw9] at Fw9;have D9:=Lib.hid (D6.out.putR Fw9);clear hw9 Fw9 q)))
  refine bodyPost_ret (results_ct rfl _ _ (w.heap.size + 1 + 1 + 1) 57 #[.slice (some ⟨g0,0,none⟩) sc.length k0,.slice (some ⟨g1,0,none⟩) ss.length k1,.int .i64 at_,.bool dn] (0,0) _ rfl D9.out.r Tryz.underlying57 rfl (by kernel_rfl)) rfl ?_
  exact ⟨_,_,rfl,D9.out.x,D9.out.b,D9.out.bl⟩
theorem emptyB : (!(⟨#[]⟩ : ByteArray).toList.isEmpty) = false:=by decide +kernel
theorem ufold_size (s : ByteArray) (p : Bool) : (ufold s p).size ≤ 4 * s.size:=by
  have h : ∀ l : List Int,(l.flatMap (upiece p)).length ≤ 4 * l.length:=by
    intro l
    induction l with
    | nil=>simp
    | cons r l ih =>
      have:=upiece_length p r
      rw [List.flatMap_cons,List.length_append,List.length_cons]
      omega
  have h1:=h (urunes s)
  have h2 : (urunes s).length ≤ s.size:=by unfold urunes;rw [List.length_map];exact ucount_le s
  show ((urunes s).flatMap (upiece p)).toArray.size ≤ _
  rw [List.size_toArray]
  omega
set_option maxHeartbeats 8000000 in
set_option maxRecDepth 1000000 in
theorem do_type_no {text : ByteArray} {w : World} (hT : Tabs w) (hP : PuzR A2 c2 bl A3 c3 ri A4 c4 be A5 c5 cells A6 c6 clues w) (hS : ShtR A7 c7 sc A8 c8 ss w) (hz : PuzS title cells clues) (hzs : Small sc) (h0 : scheck title H W bl ri be cells clues sc ss at_ = 0) (hzt : text.size ≤ 1048576) (ht : ucount (ufold text false) < 1 ∨ 3 < ucount (ufold text false)) :
    Calls Tryz.prog 51 #[.agg #[.string title,.int .i64 H,.int .i64 W,.slice A2 bl.length c2,.slice A3 ri.length c3,.slice A4 be.length c4,.slice A5 cells.length c5,.slice A6 clues.length c6],.agg #[.slice A7 sc.length c7,.slice A8 ss.length c8,.int .i64 at_,.bool dn],.agg #[.int .i64 1,.int .i64 0,.string text]] w (DoPost w (doErr 33)):=by
  have hck:=h0
  obtain ⟨hgc,hl0,hl1,hl2,ha0,ha1,hpos,h256⟩:=scheck_grid h0
  have hcp : sheet_copied.f sc ss at_ dn = some (sc,ss,at_,dn):=by unfold sheet_copied.f slices_Clone_string_string.f slices_Clone_bool_bool.f;rw [if_pos (by omega),if_pos (by omega)];rfl
  replace hck:=Lib.hid hck
  replace hcp:=Lib.hid hcp
  replace hgc:=Lib.hid hgc
  replace hl0:=Lib.hid hl0
  replace hl1:=Lib.hid hl1
  replace hl2:=Lib.hid hl2
  clear h0
  have hx:=box4 w (.cells #[.string title,.int .i64 H,.int .i64 W,.slice A2 bl.length c2,.slice A3 ri.length c3,.slice A4 be.length c4,.slice A5 cells.length c5,.slice A6 clues.length c6] 42) (.cells #[.slice A7 sc.length c7,.slice A8 ss.length c8,.int .i64 at_,.bool dn] 57) (.cells #[.int .i64 1,.int .i64 0,.string text] 35) (.cells #[.slice none 0 0,.slice none 0 0,.int .i64 0,.bool false] 57)
  replace hx:=Lib.hid hx
  have hff : fold_Fold.f text false = some (ufold text false):=by unfold fold_Fold.f;rw [if_pos (by omega)]
  have hfs:=ufold_size text false
  obtain ⟨f,hf⟩ : ∃ f,ufold text false = f:=⟨_,rfl⟩
  rw [hf] at hff hfs ht
  (try rw [hf])
  have hcf : utf_Count.f f = some (ucount f : Int):=by unfold utf_Count.f;rw [if_pos (by omega)]
  obtain ⟨cn,hcn⟩ : ∃ n,ucount f = n:=⟨_,rfl⟩
  rw [hcn] at hcf ht
  replace hff:=Lib.hid hff
  replace hcf:=Lib.hid hcf
  clear hfs hf hcn hzt
  have hu30:=Tryz.underlying57
  have hu36:=Tryz.underlying35
  have hu27:=Tryz.underlying42
  have hu24:=Tryz.underlying39
  rcases ht with ht | ht
  · skip
    have t1 : decide ((cn : Int) < 1) = true:=decide_eq_true (by omega)
    go_enter Tryz.func51,Tryz.ntmps51
    go_wp2_with (first | (go_at_call 63;go_must (refine (check_calls (tabs_below hT hx.out.2.2.2.2) (hP.below hx.out.2.2.2.2) (hS.below hx.out.2.2.2.2) hz hzs).mono ?_;rintro e w3 ⟨rfl,hb3⟩;rw [hck.out];have D3:=Lib.hid (DoW.below (w:=w) (⟨hx.out.1,hx.out.2.1,hx.out.2.2.1,hx.out.2.2.2.1,Kd.R_nil _ _ _ _ _,Kd.R_nil _ _ _ _ _,hx.out.2.2.2.2⟩ : DoW w _ _ _ _ _ (.slice none 0 0) (.slice none 0 0) [] []) hb3);clear hb3;have q:=doFacts D3.out)) | (go_at_call 64;go_must (refine (sheet_copied.calls _ c7 sc _ c8 ss at_ dn _ _ _ _ _ (hS.below D3.out.bl).r7 hS.k7 (hS.below D3.out.bl).r8 hS.k8 hcp.out).mono ?_;rintro e w4 ⟨v0,v1,rfl,hr0,hr1,hb4⟩;obtain ⟨g0,k0,rfl⟩:=R_form_n hr0 (n:=sc.length) rfl (by have:=hl0.out;omega);obtain ⟨g1,k1,rfl⟩:=R_form_n hr1 (n:=ss.length) rfl (by have:=hl1.out;omega);have D4a:=DoW.below D3.out hb4;have D4:=Lib.hid (⟨D4a.p,D4a.s,D4a.a,D4a.r,Kd.R_lower hr0 D3.out.bl.size,Kd.R_lower hr1 D3.out.bl.size,D4a.bl⟩ : DoW w w4 _ _ _ _ (.slice (some ⟨g0,0,none⟩) sc.length k0) (.slice (some ⟨g1,0,none⟩) ss.length k1) sc ss);clear q;clear D4a hr0 hr1 hb4;have q:=doFacts D4.out)) | ((with_reducible refine gate_store (t:=57) (p:=4) (v:=.tmp 48) rfl ?_);go_must (refine store_event (w1:=put4 w4 (w.heap.size + 1) (.slice (some ⟨g0,0,none⟩) sc.length k0) (.slice (some ⟨g1,0,none⟩) ss.length k1) (.int .i64 at_) (.bool dn)) (by rfl) (by rfl) (by rfl) ?hr ?_;(case hr=>first | (go_simp;done) | (go_simp;rfl));intro w5 hw5;have Fw5:=put4_facts D4.out.s (.slice (some ⟨g0,0,none⟩) sc.length k0) (.slice (some ⟨g1,0,none⟩) ss.length k1) (.int .i64 at_) (.bool dn);rw [← hw5] at Fw5;have D5:=Lib.hid (D4.out.putS Fw5);clear hw5 Fw5 q;have q:=doFacts D5.out)) | (go_at_call 65;go_must (refine (fold_Fold.calls _ _ _ _ hff.out).mono ?_;rintro e w6 ⟨rfl,hb6⟩;have D6:=Lib.hid (D5.out.below hb6);clear hb6;clear q;have q:=doFacts D6.out)) | (go_at_call 66;go_must (refine (utf_Count.calls _ _ _ hcf.out).mono ?_;rintro e w7 ⟨rfl,hb7⟩;have D7:=Lib.hid (D6.out.below hb7);clear hb7;clear q;have q:=doFacts D7.out)) | ((with_reducible refine gate_store (t:=57) (p:=6) (v:=.tmp 76) rfl ?_);go_must (refine store_event (w1:=put4 w7 (w.heap.size + 1 + 1 + 1) (.slice none 0 0) (.slice none 0 0) (.int .i64 0) (.bool false)) (by rfl) (by rfl) (by rfl) ?hr ?_;(case hr=>first | (go_simp;done) | (go_simp;rfl));intro w9 hw9;have Fw9:=put4_facts D7.out.r (.slice none 0 0) (.slice none 0 0) (.int .i64 0) (.bool false);rw [← hw9] at Fw9;have D9:=Lib.hid (D7.out.putR Fw9);clear hw9 Fw9 q)))
    refine bodyPost_ret (results_ct rfl _ _ (w.heap.size + 1 + 1 + 1) 57 #[.slice none 0 0,.slice none 0 0,.int .i64 0,.bool false] (0,0) _ rfl D9.out.r Tryz.underlying57 rfl (by kernel_rfl)) rfl ?_
    exact DoPost.err D9.out.bl
  · skip
    have t1 : decide ((cn : Int) < 1) = false:=decide_eq_false (by omega)
    have t2 : decide (3 < (cn : Int)) = true:=decide_eq_true (by omega)
    go_enter Tryz.func51,Tryz.ntmps51
    go_wp2_with (first | (go_at_call 63;go_must (refine (check_calls (tabs_below hT hx.out.2.2.2.2) (hP.below hx.out.2.2.2.2) (hS.below hx.out.2.2.2.2) hz hzs).mono ?_;rintro e w3 ⟨rfl,hb3⟩;rw [hck.out];have D3:=Lib.hid (DoW.below (w:=w) (⟨hx.out.1,hx.out.2.1,hx.out.2.2.1,hx.out.2.2.2.1,Kd.R_nil _ _ _ _ _,Kd.R_nil _ _ _ _ _,hx.out.2.2.2.2⟩ : DoW w _ _ _ _ _ (.slice none 0 0) (.slice none 0 0) [] []) hb3);clear hb3;have q:=doFacts D3.out)) | (go_at_call 64;go_must (refine (sheet_copied.calls _ c7 sc _ c8 ss at_ dn _ _ _ _ _ (hS.below D3.out.bl).r7 hS.k7 (hS.below D3.out.bl).r8 hS.k8 hcp.out).mono ?_;rintro e w4 ⟨v0,v1,rfl,hr0,hr1,hb4⟩;obtain ⟨g0,k0,rfl⟩:=R_form_n hr0 (n:=sc.length) rfl (by have:=hl0.out;omega);obtain ⟨g1,k1,rfl⟩:=R_form_n hr1 (n:=ss.length) rfl (by have:=hl1.out;omega);have D4a:=DoW.below D3.out hb4;have D4:=Lib.hid (⟨D4a.p,D4a.s,D4a.a,D4a.r,Kd.R_lower hr0 D3.out.bl.size,Kd.R_lower hr1 D3.out.bl.size,D4a.bl⟩ : DoW w w4 _ _ _ _ (.slice (some ⟨g0,0,none⟩) sc.length k0) (.slice (some ⟨g1,0,none⟩) ss.length k1) sc ss);clear q;clear D4a hr0 hr1 hb4;have q:=doFacts D4.out)) | ((with_reducible refine gate_store (t:=57) (p:=4) (v:=.tmp 48) rfl ?_);go_must (refine store_event (w1:=put4 w4 (w.heap.size + 1) (.slice (some ⟨g0,0,none⟩) sc.length k0) (.slice (some ⟨g1,0,none⟩) ss.length k1) (.int .i64 at_) (.bool dn)) (by rfl) (by rfl) (by rfl) ?hr ?_;(case hr=>first | (go_simp;done) | (go_simp;rfl));intro w5 hw5;have Fw5:=put4_facts D4.out.s (.slice (some ⟨g0,0,none⟩) sc.length k0) (.slice (some ⟨g1,0,none⟩) ss.length k1) (.int .i64 at_) (.bool dn);rw [← hw5] at Fw5;have D5:=Lib.hid (D4.out.putS Fw5);clear hw5 Fw5 q;have q:=doFacts D5.out)) | (go_at_call 65;go_must (refine (fold_Fold.calls _ _ _ _ hff.out).mono ?_;rintro e w6 ⟨rfl,hb6⟩;have D6:=Lib.hid (D5.out.below hb6);clear hb6;clear q;have q:=doFacts D6.out)) | (go_at_call 66;go_must (refine (utf_Count.calls _ _ _ hcf.out).mono ?_;rintro e w7 ⟨rfl,hb7⟩;have D7:=Lib.hid (D6.out.below hb7);clear hb7;clear q;have q:=doFacts D7.out)) | ((with_reducible refine gate_store (t:=57) (p:=6) (v:=.tmp 76) rfl ?_);go_must (refine store_event (w1:=put4 w7 (w.heap.size + 1 + 1 + 1) (.slice none 0 0) (.slice none 0 0) (.int .i64 0) (.bool false)) (by rfl) (by rfl) (by rfl) ?hr ?_;(case hr=>first | (go_simp;done) | (go_simp;rfl));intro w9 hw9;have Fw9:=put4_facts D7.out.r (.slice none 0 0) (.slice none 0 0) (.int .i64 0) (.bool false);rw [← hw9] at Fw9;have D9:=Lib.hid (D7.out.putR Fw9);clear hw9 Fw9 q)))
    refine bodyPost_ret (results_ct rfl _ _ (w.heap.size + 1 + 1 + 1) 57 #[.slice none 0 0,.slice none 0 0,.int .i64 0,.bool false] (0,0) _ rfl D9.out.r Tryz.underlying57 rfl (by kernel_rfl)) rfl ?_
    exact DoPost.err D9.out.bl
set_option maxHeartbeats 8000000 in
set_option maxRecDepth 1000000 in
theorem do_type {text : ByteArray} {w : World} (hT : Tabs w) (hP : PuzR A2 c2 bl A3 c3 ri A4 c4 be A5 c5 cells A6 c6 clues w) (hS : ShtR A7 c7 sc A8 c8 ss w) (hz : PuzS title cells clues) (hzs : Small sc) (h0 : scheck title H W bl ri be cells clues sc ss at_ = 0) (hzt : text.size ≤ 1048576) (ht : ¬ (ucount (ufold text false) < 1 ∨ 3 < ucount (ufold text false))) :
    Calls Tryz.prog 51 #[.agg #[.string title,.int .i64 H,.int .i64 W,.slice A2 bl.length c2,.slice A3 ri.length c3,.slice A4 be.length c4,.slice A5 cells.length c5,.slice A6 clues.length c6],.agg #[.slice A7 sc.length c7,.slice A8 ss.length c8,.int .i64 at_,.bool dn],.agg #[.int .i64 1,.int .i64 0,.string text]] w (DoPost w (sc.set at_.toNat (ufold text false),ss.set at_.toNat (!(ufold text false).toList.isEmpty),stepOf H W bl ri be at_ dn 1,dn,0)):=by
  have hck:=h0
  obtain ⟨hgc,hl0,hl1,hl2,ha0,ha1,hpos,h256⟩:=scheck_grid h0
  have hcp : sheet_copied.f sc ss at_ dn = some (sc,ss,at_,dn):=by unfold sheet_copied.f slices_Clone_string_string.f slices_Clone_bool_bool.f;rw [if_pos (by omega),if_pos (by omega)];rfl
  replace hck:=Lib.hid hck
  replace hcp:=Lib.hid hcp
  replace hgc:=Lib.hid hgc
  replace hl0:=Lib.hid hl0
  replace hl1:=Lib.hid hl1
  replace hl2:=Lib.hid hl2
  clear h0
  have hx:=box4 w (.cells #[.string title,.int .i64 H,.int .i64 W,.slice A2 bl.length c2,.slice A3 ri.length c3,.slice A4 be.length c4,.slice A5 cells.length c5,.slice A6 clues.length c6] 42) (.cells #[.slice A7 sc.length c7,.slice A8 ss.length c8,.int .i64 at_,.bool dn] 57) (.cells #[.int .i64 1,.int .i64 0,.string text] 35) (.cells #[.slice none 0 0,.slice none 0 0,.int .i64 0,.bool false] 57)
  replace hx:=Lib.hid hx
  have hff : fold_Fold.f text false = some (ufold text false):=by unfold fold_Fold.f;rw [if_pos (by omega)]
  have hfs:=ufold_size text false
  obtain ⟨f,hf⟩ : ∃ f,ufold text false = f:=⟨_,rfl⟩
  rw [hf] at hff hfs ht
  (try rw [hf])
  have hcf : utf_Count.f f = some (ucount f : Int):=by unfold utf_Count.f;rw [if_pos (by omega)]
  obtain ⟨cn,hcn⟩ : ∃ n,ucount f = n:=⟨_,rfl⟩
  rw [hcn] at hcf ht
  replace hff:=Lib.hid hff
  replace hcf:=Lib.hid hcf
  clear hfs hf hcn hzt
  have hu30:=Tryz.underlying57
  have hu36:=Tryz.underlying35
  have hu27:=Tryz.underlying42
  have hu24:=Tryz.underlying39
  have t1 : decide ((cn : Int) < 1) = false:=decide_eq_false (by omega)
  have t2 : decide (3 < (cn : Int)) = false:=decide_eq_false (by omega)
  clear ht
  go_enter Tryz.func51,Tryz.ntmps51
  go_wp2_with (first | (go_at_call 63;go_must (refine (check_calls (tabs_below hT hx.out.2.2.2.2) (hP.below hx.out.2.2.2.2) (hS.below hx.out.2.2.2.2) hz hzs).mono ?_;rintro e w3 ⟨rfl,hb3⟩;rw [hck.out];have D3:=Lib.hid (DoW.below (w:=w) (⟨hx.out.1,hx.out.2.1,hx.out.2.2.1,hx.out.2.2.2.1,Kd.R_nil _ _ _ _ _,Kd.R_nil _ _ _ _ _,hx.out.2.2.2.2⟩ : DoW w _ _ _ _ _ (.slice none 0 0) (.slice none 0 0) [] []) hb3);clear hb3;have q:=doFacts D3.out)) | (go_at_call 64;go_must (refine (sheet_copied.calls _ c7 sc _ c8 ss at_ dn _ _ _ _ _ (hS.below D3.out.bl).r7 hS.k7 (hS.below D3.out.bl).r8 hS.k8 hcp.out).mono ?_;rintro e w4 ⟨v0,v1,rfl,hr0,hr1,hb4⟩;obtain ⟨g0,k0,rfl⟩:=R_form_n hr0 (n:=sc.length) rfl (by have:=hl0.out;omega);obtain ⟨g1,k1,rfl⟩:=R_form_n hr1 (n:=ss.length) rfl (by have:=hl1.out;omega);have D4a:=DoW.below D3.out hb4;have D4:=Lib.hid (⟨D4a.p,D4a.s,D4a.a,D4a.r,Kd.R_lower hr0 D3.out.bl.size,Kd.R_lower hr1 D3.out.bl.size,D4a.bl⟩ : DoW w w4 _ _ _ _ (.slice (some ⟨g0,0,none⟩) sc.length k0) (.slice (some ⟨g1,0,none⟩) ss.length k1) sc ss);clear q;clear D4a hr0 hr1 hb4;have q:=doFacts D4.out)) | ((with_reducible refine gate_store (t:=57) (p:=4) (v:=.tmp 48) rfl ?_);go_must (refine store_event (w1:=put4 w4 (w.heap.size + 1) (.slice (some ⟨g0,0,none⟩) sc.length k0) (.slice (some ⟨g1,0,none⟩) ss.length k1) (.int .i64 at_) (.bool dn)) (by rfl) (by rfl) (by rfl) ?hr ?_;(case hr=>first | (go_simp;done) | (go_simp;rfl));intro w5 hw5;have Fw5:=put4_facts D4.out.s (.slice (some ⟨g0,0,none⟩) sc.length k0) (.slice (some ⟨g1,0,none⟩) ss.length k1) (.int .i64 at_) (.bool dn);rw [← hw5] at Fw5;have D5:=Lib.hid (D4.out.putS Fw5);clear hw5 Fw5 q;have q:=doFacts D5.out)) | (go_at_call 65;go_must (refine (fold_Fold.calls _ _ _ _ hff.out).mono ?_;rintro e w6 ⟨rfl,hb6⟩;have D6:=Lib.hid (D5.out.below hb6);clear hb6;clear q;have q:=doFacts D6.out)) | (go_at_call 66;go_must (refine (utf_Count.calls _ _ _ hcf.out).mono ?_;rintro e w7 ⟨rfl,hb7⟩;have D7:=Lib.hid (D6.out.below hb7);clear hb7;clear q;have q:=doFacts D7.out)) | (go_at_call 67;go_must (refine (sheet_write.calls (w.heap.size + 1) w.heap.size g0 g1 k0 k1 sc ss (at_) dn (f) _ D7.out.s D7.out.x D7.out.b ha0 (by have:=hl0.out;omega) (by have:=hl1.out;omega)).mono ?_;rintro e w8 ⟨rfl,hw1,hw2,hw3,hw4,hw5⟩;have D8:=Lib.hid (D7.out.written hw2 hw3 hw4 hw5);clear hw1 hw2 hw3 hw4 hw5;clear q;have q:=doFacts D8.out)) | (go_at_call 68;go_must (refine (sheet_step.calls title H W _ c2 bl _ c3 ri _ c4 be _ _ _ _ _ _ _ _ _ _ _ _ at_ dn (1) _ ((hP.below D8.out.bl).grid hgc.out) ⟨ha0,ha1⟩ ⟨by decide,by decide⟩).mono ?_;rintro e w10 ⟨rfl,hw10⟩;have D10:=Lib.hid (D8.out.below hw10);clear hw10;clear q;have q:=doFacts D10.out)) | ((with_reducible refine gate_store (t:=3) (p:=82) (v:=.tmp 81) rfl ?_);go_must (refine store_event (w1:=w10.setCell ⟨w.heap.size + 1,2,none⟩ (.int .i64 (stepOf H W bl ri be at_ dn 1))) (by rfl) (by rfl) (by rfl) ?hr ?_;(case hr=>first | (go_simp;done) | (go_simp;rfl));intro w11 hw11;have Fw11:=one_facts (cs':=#[.slice (some ⟨g0,0,none⟩) sc.length k0,.slice (some ⟨g1,0,none⟩) ss.length k1,.int .i64 (stepOf H W bl ri be at_ dn 1),.bool dn]) (i:=2) D10.out.s (.int .i64 (stepOf H W bl ri be at_ dn 1)) rfl;rw [← hw11] at Fw11;have D11:=Lib.hid (D10.out.putS Fw11);clear hw11 Fw11 q;have q:=doFacts D11.out)) | ((with_reducible refine gate_store (t:=57) (p:=6) (v:=.tmp 149) rfl ?_);go_must (refine store_event (w1:=put4 w11 (w.heap.size + 1 + 1 + 1) (.slice (some ⟨g0,0,none⟩) sc.length k0) (.slice (some ⟨g1,0,none⟩) ss.length k1) (.int .i64 (stepOf H W bl ri be at_ dn 1)) (.bool dn)) (by rfl) (by rfl) (by rfl) ?hr ?_;(case hr=>first | (go_simp;done) | (go_simp;rfl));intro w9 hw9;have Fw9:=put4_facts D11.out.r (.slice (some ⟨g0,0,none⟩) sc.length k0) (.slice (some ⟨g1,0,none⟩) ss.length k1) (.int .i64 (stepOf H W bl ri be at_ dn 1)) (.bool dn);rw [← hw9] at Fw9;have D9:=Lib.hid (D11.out.putR Fw9);clear hw9 Fw9 q)))
  refine bodyPost_ret (results_ct rfl _ _ (w.heap.size + 1 + 1 + 1) 57 #[.slice (some ⟨g0,0,none⟩) sc.length k0,.slice (some ⟨g1,0,none⟩) ss.length k1,.int .i64 (stepOf H W bl ri be at_ dn 1),.bool dn] (0,0) _ rfl D9.out.r Tryz.underlying57 rfl (by kernel_rfl)) rfl ?_
  exact ⟨_,_,rfl,D9.out.x,D9.out.b,D9.out.bl⟩
set_option maxHeartbeats 8000000 in
set_option maxRecDepth 1000000 in
theorem do_wipe_here {text : ByteArray} {w : World} (hT : Tabs w) (hP : PuzR A2 c2 bl A3 c3 ri A4 c4 be A5 c5 cells A6 c6 clues w) (hS : ShtR A7 c7 sc A8 c8 ss w) (hz : PuzS title cells clues) (hzs : Small sc) (h0 : scheck title H W bl ri be cells clues sc ss at_ = 0) (htl : text.toList = []) (he : emptyAt sc at_ = false) :
    Calls Tryz.prog 51 #[.agg #[.string title,.int .i64 H,.int .i64 W,.slice A2 bl.length c2,.slice A3 ri.length c3,.slice A4 be.length c4,.slice A5 cells.length c5,.slice A6 clues.length c6],.agg #[.slice A7 sc.length c7,.slice A8 ss.length c8,.int .i64 at_,.bool dn],.agg #[.int .i64 2,.int .i64 0,.string text]] w (DoPost w (sc.set at_.toNat ⟨#[]⟩,ss.set at_.toNat false,at_,dn,0)):=by
  have hck:=h0
  obtain ⟨hgc,hl0,hl1,hl2,ha0,ha1,hpos,h256⟩:=scheck_grid h0
  have hcp : sheet_copied.f sc ss at_ dn = some (sc,ss,at_,dn):=by unfold sheet_copied.f slices_Clone_string_string.f slices_Clone_bool_bool.f;rw [if_pos (by omega),if_pos (by omega)];rfl
  replace hck:=Lib.hid hck
  replace hcp:=Lib.hid hcp
  replace hgc:=Lib.hid hgc
  replace hl0:=Lib.hid hl0
  replace hl1:=Lib.hid hl1
  replace hl2:=Lib.hid hl2
  clear h0
  have hx:=box4 w (.cells #[.string title,.int .i64 H,.int .i64 W,.slice A2 bl.length c2,.slice A3 ri.length c3,.slice A4 be.length c4,.slice A5 cells.length c5,.slice A6 clues.length c6] 42) (.cells #[.slice A7 sc.length c7,.slice A8 ss.length c8,.int .i64 at_,.bool dn] 57) (.cells #[.int .i64 2,.int .i64 0,.string text] 35) (.cells #[.slice none 0 0,.slice none 0 0,.int .i64 0,.bool false] 57)
  replace hx:=Lib.hid hx
  have e4 : text.toList.isEmpty = true:=by rw [htl];rfl
  replace htl:=Lib.hid htl
  have hu30:=Tryz.underlying57
  have hu36:=Tryz.underlying35
  have hu27:=Tryz.underlying42
  have hu24:=Tryz.underlying39
  have hsl0 : at_ < (sc.length : Int):=by have:=hl0.out;omega
  obtain ⟨xt,hrd⟩ : ∃ t,rdOf ByteArray.empty sc at_ = t:=⟨_,rfl⟩
  have hem : emptyAt sc at_ = xt.toList.isEmpty:=by rw [← hrd];rfl
  rw [hem] at he
  clear hem
  replace hrd:=Lib.hid hrd
  go_enter Tryz.func51,Tryz.ntmps51
  go_wp2_with (first | (go_at_call 63;go_must (refine (check_calls (tabs_below hT hx.out.2.2.2.2) (hP.below hx.out.2.2.2.2) (hS.below hx.out.2.2.2.2) hz hzs).mono ?_;rintro e w3 ⟨rfl,hb3⟩;rw [hck.out];have D3:=Lib.hid (DoW.below (w:=w) (⟨hx.out.1,hx.out.2.1,hx.out.2.2.1,hx.out.2.2.2.1,Kd.R_nil _ _ _ _ _,Kd.R_nil _ _ _ _ _,hx.out.2.2.2.2⟩ : DoW w _ _ _ _ _ (.slice none 0 0) (.slice none 0 0) [] []) hb3);clear hb3;have q:=doFacts D3.out)) | (go_at_call 64;go_must (refine (sheet_copied.calls _ c7 sc _ c8 ss at_ dn _ _ _ _ _ (hS.below D3.out.bl).r7 hS.k7 (hS.below D3.out.bl).r8 hS.k8 hcp.out).mono ?_;rintro e w4 ⟨v0,v1,rfl,hr0,hr1,hb4⟩;obtain ⟨g0,k0,rfl⟩:=R_form_n hr0 (n:=sc.length) rfl (by have:=hl0.out;omega);obtain ⟨g1,k1,rfl⟩:=R_form_n hr1 (n:=ss.length) rfl (by have:=hl1.out;omega);have D4a:=DoW.below D3.out hb4;have D4:=Lib.hid (⟨D4a.p,D4a.s,D4a.a,D4a.r,Kd.R_lower hr0 D3.out.bl.size,Kd.R_lower hr1 D3.out.bl.size,D4a.bl⟩ : DoW w w4 _ _ _ _ (.slice (some ⟨g0,0,none⟩) sc.length k0) (.slice (some ⟨g1,0,none⟩) ss.length k1) sc ss);clear q;clear D4a hr0 hr1 hb4;have q:=doFacts D4.out)) | ((with_reducible refine gate_store (t:=57) (p:=4) (v:=.tmp 48) rfl ?_);go_must (refine store_event (w1:=put4 w4 (w.heap.size + 1) (.slice (some ⟨g0,0,none⟩) sc.length k0) (.slice (some ⟨g1,0,none⟩) ss.length k1) (.int .i64 at_) (.bool dn)) (by rfl) (by rfl) (by rfl) ?hr ?_;(case hr=>first | (go_simp;done) | (go_simp;rfl));intro w5 hw5;have Fw5:=put4_facts D4.out.s (.slice (some ⟨g0,0,none⟩) sc.length k0) (.slice (some ⟨g1,0,none⟩) ss.length k1) (.int .i64 at_) (.bool dn);rw [← hw5] at Fw5;have D5:=Lib.hid (D4.out.putS Fw5);clear hw5 Fw5 q;have q:=doFacts D5.out;obtain ⟨adx,eAx,zx⟩:=Kd.at_string (Kd.R_reads' D5.out.x).2.2 at_ ha0 hsl0;cases eAx;have zx:=(show w5.cell? ⟨g0,at_.toNat,none⟩ = some (.string (rdOf ByteArray.empty sc at_)) from by rw [← add_plain];exact zx);rw [hrd.out] at zx)) | (go_at_call 67;go_must (refine (sheet_write.calls (w.heap.size + 1) w.heap.size g0 g1 k0 k1 sc ss (at_) dn (⟨#[]⟩) _ D5.out.s D5.out.x D5.out.b ha0 (by have:=hl0.out;omega) (by have:=hl1.out;omega)).mono ?_;rintro e w6 ⟨rfl,hw1,hw2,hw3,hw4,hw5⟩;have D6:=Lib.hid (D5.out.written hw2 hw3 hw4 hw5);clear hw1 hw2 hw3 hw4 hw5;clear q;have q:=doFacts D6.out)) | ((with_reducible refine gate_store (t:=57) (p:=6) (v:=.tmp 149) rfl ?_);go_must (refine store_event (w1:=put4 w6 (w.heap.size + 1 + 1 + 1) (.slice (some ⟨g0,0,none⟩) sc.length k0) (.slice (some ⟨g1,0,none⟩) ss.length k1) (.int .i64 at_) (.bool dn)) (by rfl) (by rfl) (by rfl) ?hr ?_;(case hr=>first | (go_simp;done) | (go_simp;rfl));intro w9 hw9;have Fw9:=put4_facts D6.out.r (.slice (some ⟨g0,0,none⟩) sc.length k0) (.slice (some ⟨g1,0,none⟩) ss.length k1) (.int .i64 at_) (.bool dn);rw [← hw9] at Fw9;have D9:=Lib.hid (D6.out.putR Fw9);clear hw9 Fw9 q)))
  refine bodyPost_ret (results_ct rfl _ _ (w.heap.size + 1 + 1 + 1) 57 #[.slice (some ⟨g0,0,none⟩) sc.length k0,.slice (some ⟨g1,0,none⟩) ss.length k1,.int .i64 at_,.bool dn] (0,0) _ rfl D9.out.r Tryz.underlying57 rfl (by kernel_rfl)) rfl ?_
  exact ⟨_,_,rfl,D9.out.x,emptyB ▸ D9.out.b,D9.out.bl⟩
set_option maxHeartbeats 8000000 in
set_option maxRecDepth 1000000 in
theorem do_wipe_back {text : ByteArray} {w : World} (hT : Tabs w) (hP : PuzR A2 c2 bl A3 c3 ri A4 c4 be A5 c5 cells A6 c6 clues w) (hS : ShtR A7 c7 sc A8 c8 ss w) (hz : PuzS title cells clues) (hzs : Small sc) (h0 : scheck title H W bl ri be cells clues sc ss at_ = 0) (htl : text.toList = []) (he : emptyAt sc at_ = true) :
    Calls Tryz.prog 51 #[.agg #[.string title,.int .i64 H,.int .i64 W,.slice A2 bl.length c2,.slice A3 ri.length c3,.slice A4 be.length c4,.slice A5 cells.length c5,.slice A6 clues.length c6],.agg #[.slice A7 sc.length c7,.slice A8 ss.length c8,.int .i64 at_,.bool dn],.agg #[.int .i64 2,.int .i64 0,.string text]] w (DoPost w (sc.set (stepOf H W bl ri be at_ dn (-1)).toNat ⟨#[]⟩,ss.set (stepOf H W bl ri be at_ dn (-1)).toNat false,stepOf H W bl ri be at_ dn (-1),dn,0)):=by
  have hck:=h0
  obtain ⟨hgc,hl0,hl1,hl2,ha0,ha1,hpos,h256⟩:=scheck_grid h0
  have hcp : sheet_copied.f sc ss at_ dn = some (sc,ss,at_,dn):=by unfold sheet_copied.f slices_Clone_string_string.f slices_Clone_bool_bool.f;rw [if_pos (by omega),if_pos (by omega)];rfl
  replace hck:=Lib.hid hck
  replace hcp:=Lib.hid hcp
  replace hgc:=Lib.hid hgc
  replace hl0:=Lib.hid hl0
  replace hl1:=Lib.hid hl1
  replace hl2:=Lib.hid hl2
  clear h0
  have hx:=box4 w (.cells #[.string title,.int .i64 H,.int .i64 W,.slice A2 bl.length c2,.slice A3 ri.length c3,.slice A4 be.length c4,.slice A5 cells.length c5,.slice A6 clues.length c6] 42) (.cells #[.slice A7 sc.length c7,.slice A8 ss.length c8,.int .i64 at_,.bool dn] 57) (.cells #[.int .i64 2,.int .i64 0,.string text] 35) (.cells #[.slice none 0 0,.slice none 0 0,.int .i64 0,.bool false] 57)
  replace hx:=Lib.hid hx
  have e4 : text.toList.isEmpty = true:=by rw [htl];rfl
  replace htl:=Lib.hid htl
  have hu30:=Tryz.underlying57
  have hu36:=Tryz.underlying35
  have hu27:=Tryz.underlying42
  have hu24:=Tryz.underlying39
  have hsl0 : at_ < (sc.length : Int):=by have:=hl0.out;omega
  obtain ⟨xt,hrd⟩ : ∃ t,rdOf ByteArray.empty sc at_ = t:=⟨_,rfl⟩
  have hem : emptyAt sc at_ = xt.toList.isEmpty:=by rw [← hrd];rfl
  rw [hem] at he
  clear hem
  replace hrd:=Lib.hid hrd
  obtain ⟨hs0,hs1⟩:=stepOf_range (d:=-1) (dn:=dn) hgc.out ha0 ha1
  go_enter Tryz.func51,Tryz.ntmps51
  go_wp2_with (first | (go_at_call 63;go_must (refine (check_calls (tabs_below hT hx.out.2.2.2.2) (hP.below hx.out.2.2.2.2) (hS.below hx.out.2.2.2.2) hz hzs).mono ?_;rintro e w3 ⟨rfl,hb3⟩;rw [hck.out];have D3:=Lib.hid (DoW.below (w:=w) (⟨hx.out.1,hx.out.2.1,hx.out.2.2.1,hx.out.2.2.2.1,Kd.R_nil _ _ _ _ _,Kd.R_nil _ _ _ _ _,hx.out.2.2.2.2⟩ : DoW w _ _ _ _ _ (.slice none 0 0) (.slice none 0 0) [] []) hb3);clear hb3;have q:=doFacts D3.out)) | (go_at_call 64;go_must (refine (sheet_copied.calls _ c7 sc _ c8 ss at_ dn _ _ _ _ _ (hS.below D3.out.bl).r7 hS.k7 (hS.below D3.out.bl).r8 hS.k8 hcp.out).mono ?_;rintro e w4 ⟨v0,v1,rfl,hr0,hr1,hb4⟩;obtain ⟨g0,k0,rfl⟩:=R_form_n hr0 (n:=sc.length) rfl (by have:=hl0.out;omega);obtain ⟨g1,k1,rfl⟩:=R_form_n hr1 (n:=ss.length) rfl (by have:=hl1.out;omega);have D4a:=DoW.below D3.out hb4;have D4:=Lib.hid (⟨D4a.p,D4a.s,D4a.a,D4a.r,Kd.R_lower hr0 D3.out.bl.size,Kd.R_lower hr1 D3.out.bl.size,D4a.bl⟩ : DoW w w4 _ _ _ _ (.slice (some ⟨g0,0,none⟩) sc.length k0) (.slice (some ⟨g1,0,none⟩) ss.length k1) sc ss);clear q;clear D4a hr0 hr1 hb4;have q:=doFacts D4.out)) | ((with_reducible refine gate_store (t:=57) (p:=4) (v:=.tmp 48) rfl ?_);go_must (refine store_event (w1:=put4 w4 (w.heap.size + 1) (.slice (some ⟨g0,0,none⟩) sc.length k0) (.slice (some ⟨g1,0,none⟩) ss.length k1) (.int .i64 at_) (.bool dn)) (by rfl) (by rfl) (by rfl) ?hr ?_;(case hr=>first | (go_simp;done) | (go_simp;rfl));intro w5 hw5;have Fw5:=put4_facts D4.out.s (.slice (some ⟨g0,0,none⟩) sc.length k0) (.slice (some ⟨g1,0,none⟩) ss.length k1) (.int .i64 at_) (.bool dn);rw [← hw5] at Fw5;have D5:=Lib.hid (D4.out.putS Fw5);clear hw5 Fw5 q;have q:=doFacts D5.out;obtain ⟨adx,eAx,zx⟩:=Kd.at_string (Kd.R_reads' D5.out.x).2.2 at_ ha0 hsl0;cases eAx;have zx:=(show w5.cell? ⟨g0,at_.toNat,none⟩ = some (.string (rdOf ByteArray.empty sc at_)) from by rw [← add_plain];exact zx);rw [hrd.out] at zx)) | (go_at_call 68;go_must (refine (sheet_step.calls title H W _ c2 bl _ c3 ri _ c4 be _ _ _ _ _ _ _ _ _ _ _ _ at_ dn (-1) _ ((hP.below D5.out.bl).grid hgc.out) ⟨ha0,ha1⟩ ⟨by decide,by decide⟩).mono ?_;rintro e w6 ⟨rfl,hw6⟩;have D6:=Lib.hid (D5.out.below hw6);clear hw6;clear q;have q:=doFacts D6.out)) | ((with_reducible refine gate_store (t:=3) (p:=93) (v:=.tmp 92) rfl ?_);go_must (refine store_event (w1:=w6.setCell ⟨w.heap.size + 1,2,none⟩ (.int .i64 (stepOf H W bl ri be at_ dn (-1)))) (by rfl) (by rfl) (by rfl) ?hr ?_;(case hr=>first | (go_simp;done) | (go_simp;rfl));intro w7 hw7;have Fw7:=one_facts (cs':=#[.slice (some ⟨g0,0,none⟩) sc.length k0,.slice (some ⟨g1,0,none⟩) ss.length k1,.int .i64 (stepOf H W bl ri be at_ dn (-1)),.bool dn]) (i:=2) D6.out.s (.int .i64 (stepOf H W bl ri be at_ dn (-1))) rfl;rw [← hw7] at Fw7;have D7:=Lib.hid (D6.out.putS Fw7);clear hw7 Fw7 q;have q:=doFacts D7.out)) | (go_at_call 67;go_must (refine (sheet_write.calls (w.heap.size + 1) w.heap.size g0 g1 k0 k1 sc ss (stepOf H W bl ri be at_ dn (-1)) dn (⟨#[]⟩) _ D7.out.s D7.out.x D7.out.b hs0 (by have:=hl0.out;omega) (by have:=hl1.out;omega)).mono ?_;rintro e w8 ⟨rfl,hw1,hw2,hw3,hw4,hw5⟩;have D8:=Lib.hid (D7.out.written hw2 hw3 hw4 hw5);clear hw1 hw2 hw3 hw4 hw5;clear q;have q:=doFacts D8.out)) | ((with_reducible refine gate_store (t:=57) (p:=6) (v:=.tmp 149) rfl ?_);go_must (refine store_event (w1:=put4 w8 (w.heap.size + 1 + 1 + 1) (.slice (some ⟨g0,0,none⟩) sc.length k0) (.slice (some ⟨g1,0,none⟩) ss.length k1) (.int .i64 (stepOf H W bl ri be at_ dn (-1))) (.bool dn)) (by rfl) (by rfl) (by rfl) ?hr ?_;(case hr=>first | (go_simp;done) | (go_simp;rfl));intro w9 hw9;have Fw9:=put4_facts D8.out.r (.slice (some ⟨g0,0,none⟩) sc.length k0) (.slice (some ⟨g1,0,none⟩) ss.length k1) (.int .i64 (stepOf H W bl ri be at_ dn (-1))) (.bool dn);rw [← hw9] at Fw9;have D9:=Lib.hid (D8.out.putR Fw9);clear hw9 Fw9 q)))
  refine bodyPost_ret (results_ct rfl _ _ (w.heap.size + 1 + 1 + 1) 57 #[.slice (some ⟨g0,0,none⟩) sc.length k0,.slice (some ⟨g1,0,none⟩) ss.length k1,.int .i64 (stepOf H W bl ri be at_ dn (-1)),.bool dn] (0,0) _ rfl D9.out.r Tryz.underlying57 rfl (by kernel_rfl)) rfl ?_
  exact ⟨_,_,rfl,D9.out.x,emptyB ▸ D9.out.b,D9.out.bl⟩
set_option maxHeartbeats 8000000 in
set_option maxRecDepth 1000000 in
theorem do_pencil_no {text : ByteArray} {w : World} (hT : Tabs w) (hP : PuzR A2 c2 bl A3 c3 ri A4 c4 be A5 c5 cells A6 c6 clues w) (hS : ShtR A7 c7 sc A8 c8 ss w) (hz : PuzS title cells clues) (hzs : Small sc) (h0 : scheck title H W bl ri be cells clues sc ss at_ = 0) (htl : text.toList = []) (he : emptyAt sc at_ = true) :
    Calls Tryz.prog 51 #[.agg #[.string title,.int .i64 H,.int .i64 W,.slice A2 bl.length c2,.slice A3 ri.length c3,.slice A4 be.length c4,.slice A5 cells.length c5,.slice A6 clues.length c6],.agg #[.slice A7 sc.length c7,.slice A8 ss.length c8,.int .i64 at_,.bool dn],.agg #[.int .i64 5,.int .i64 0,.string text]] w (DoPost w (doErr 140)):=by
  have hck:=h0
  obtain ⟨hgc,hl0,hl1,hl2,ha0,ha1,hpos,h256⟩:=scheck_grid h0
  have hcp : sheet_copied.f sc ss at_ dn = some (sc,ss,at_,dn):=by unfold sheet_copied.f slices_Clone_string_string.f slices_Clone_bool_bool.f;rw [if_pos (by omega),if_pos (by omega)];rfl
  replace hck:=Lib.hid hck
  replace hcp:=Lib.hid hcp
  replace hgc:=Lib.hid hgc
  replace hl0:=Lib.hid hl0
  replace hl1:=Lib.hid hl1
  replace hl2:=Lib.hid hl2
  clear h0
  have hx:=box4 w (.cells #[.string title,.int .i64 H,.int .i64 W,.slice A2 bl.length c2,.slice A3 ri.length c3,.slice A4 be.length c4,.slice A5 cells.length c5,.slice A6 clues.length c6] 42) (.cells #[.slice A7 sc.length c7,.slice A8 ss.length c8,.int .i64 at_,.bool dn] 57) (.cells #[.int .i64 5,.int .i64 0,.string text] 35) (.cells #[.slice none 0 0,.slice none 0 0,.int .i64 0,.bool false] 57)
  replace hx:=Lib.hid hx
  have e4 : text.toList.isEmpty = true:=by rw [htl];rfl
  replace htl:=Lib.hid htl
  have hu30:=Tryz.underlying57
  have hu36:=Tryz.underlying35
  have hu27:=Tryz.underlying42
  have hu24:=Tryz.underlying39
  have hsl0 : at_ < (sc.length : Int):=by have:=hl0.out;omega
  obtain ⟨xt,hrd⟩ : ∃ t,rdOf ByteArray.empty sc at_ = t:=⟨_,rfl⟩
  have hem : emptyAt sc at_ = xt.toList.isEmpty:=by rw [← hrd];rfl
  rw [hem] at he
  clear hem
  replace hrd:=Lib.hid hrd
  go_enter Tryz.func51,Tryz.ntmps51
  go_wp2_with (first | (go_at_call 63;go_must (refine (check_calls (tabs_below hT hx.out.2.2.2.2) (hP.below hx.out.2.2.2.2) (hS.below hx.out.2.2.2.2) hz hzs).mono ?_;rintro e w3 ⟨rfl,hb3⟩;rw [hck.out];have D3:=Lib.hid (DoW.below (w:=w) (⟨hx.out.1,hx.out.2.1,hx.out.2.2.1,hx.out.2.2.2.1,Kd.R_nil _ _ _ _ _,Kd.R_nil _ _ _ _ _,hx.out.2.2.2.2⟩ : DoW w _ _ _ _ _ (.slice none 0 0) (.slice none 0 0) [] []) hb3);clear hb3;have q:=doFacts D3.out)) | (go_at_call 64;go_must (refine (sheet_copied.calls _ c7 sc _ c8 ss at_ dn _ _ _ _ _ (hS.below D3.out.bl).r7 hS.k7 (hS.below D3.out.bl).r8 hS.k8 hcp.out).mono ?_;rintro e w4 ⟨v0,v1,rfl,hr0,hr1,hb4⟩;obtain ⟨g0,k0,rfl⟩:=R_form_n hr0 (n:=sc.length) rfl (by have:=hl0.out;omega);obtain ⟨g1,k1,rfl⟩:=R_form_n hr1 (n:=ss.length) rfl (by have:=hl1.out;omega);have D4a:=DoW.below D3.out hb4;have D4:=Lib.hid (⟨D4a.p,D4a.s,D4a.a,D4a.r,Kd.R_lower hr0 D3.out.bl.size,Kd.R_lower hr1 D3.out.bl.size,D4a.bl⟩ : DoW w w4 _ _ _ _ (.slice (some ⟨g0,0,none⟩) sc.length k0) (.slice (some ⟨g1,0,none⟩) ss.length k1) sc ss);clear q;clear D4a hr0 hr1 hb4;have q:=doFacts D4.out)) | ((with_reducible refine gate_store (t:=57) (p:=4) (v:=.tmp 48) rfl ?_);go_must (refine store_event (w1:=put4 w4 (w.heap.size + 1) (.slice (some ⟨g0,0,none⟩) sc.length k0) (.slice (some ⟨g1,0,none⟩) ss.length k1) (.int .i64 at_) (.bool dn)) (by rfl) (by rfl) (by rfl) ?hr ?_;(case hr=>first | (go_simp;done) | (go_simp;rfl));intro w5 hw5;have Fw5:=put4_facts D4.out.s (.slice (some ⟨g0,0,none⟩) sc.length k0) (.slice (some ⟨g1,0,none⟩) ss.length k1) (.int .i64 at_) (.bool dn);rw [← hw5] at Fw5;have D5:=Lib.hid (D4.out.putS Fw5);clear hw5 Fw5 q;have q:=doFacts D5.out;obtain ⟨adx,eAx,zx⟩:=Kd.at_string (Kd.R_reads' D5.out.x).2.2 at_ ha0 hsl0;cases eAx;have zx:=(show w5.cell? ⟨g0,at_.toNat,none⟩ = some (.string (rdOf ByteArray.empty sc at_)) from by rw [← add_plain];exact zx);rw [hrd.out] at zx)) | ((with_reducible refine gate_store (t:=57) (p:=6) (v:=.tmp 121) rfl ?_);go_must (refine store_event (w1:=put4 w5 (w.heap.size + 1 + 1 + 1) (.slice none 0 0) (.slice none 0 0) (.int .i64 0) (.bool false)) (by rfl) (by rfl) (by rfl) ?hr ?_;(case hr=>first | (go_simp;done) | (go_simp;rfl));intro w9 hw9;have Fw9:=put4_facts D5.out.r (.slice none 0 0) (.slice none 0 0) (.int .i64 0) (.bool false);rw [← hw9] at Fw9;have D9:=Lib.hid (D5.out.putR Fw9);clear hw9 Fw9 q)))
  refine bodyPost_ret (results_ct rfl _ _ (w.heap.size + 1 + 1 + 1) 57 #[.slice none 0 0,.slice none 0 0,.int .i64 0,.bool false] (0,0) _ rfl D9.out.r Tryz.underlying57 rfl (by kernel_rfl)) rfl ?_
  exact DoPost.err D9.out.bl
set_option maxHeartbeats 8000000 in
set_option maxRecDepth 1000000 in
theorem do_pencil {text : ByteArray} {w : World} (hT : Tabs w) (hP : PuzR A2 c2 bl A3 c3 ri A4 c4 be A5 c5 cells A6 c6 clues w) (hS : ShtR A7 c7 sc A8 c8 ss w) (hz : PuzS title cells clues) (hzs : Small sc) (h0 : scheck title H W bl ri be cells clues sc ss at_ = 0) (htl : text.toList = []) (he : emptyAt sc at_ = false) :
    Calls Tryz.prog 51 #[.agg #[.string title,.int .i64 H,.int .i64 W,.slice A2 bl.length c2,.slice A3 ri.length c3,.slice A4 be.length c4,.slice A5 cells.length c5,.slice A6 clues.length c6],.agg #[.slice A7 sc.length c7,.slice A8 ss.length c8,.int .i64 at_,.bool dn],.agg #[.int .i64 5,.int .i64 0,.string text]] w (DoPost w (sc,ss.set at_.toNat (!rdOf false ss at_),at_,dn,0)):=by
  have hck:=h0
  obtain ⟨hgc,hl0,hl1,hl2,ha0,ha1,hpos,h256⟩:=scheck_grid h0
  have hcp : sheet_copied.f sc ss at_ dn = some (sc,ss,at_,dn):=by unfold sheet_copied.f slices_Clone_string_string.f slices_Clone_bool_bool.f;rw [if_pos (by omega),if_pos (by omega)];rfl
  replace hck:=Lib.hid hck
  replace hcp:=Lib.hid hcp
  replace hgc:=Lib.hid hgc
  replace hl0:=Lib.hid hl0
  replace hl1:=Lib.hid hl1
  replace hl2:=Lib.hid hl2
  clear h0
  have hx:=box4 w (.cells #[.string title,.int .i64 H,.int .i64 W,.slice A2 bl.length c2,.slice A3 ri.length c3,.slice A4 be.length c4,.slice A5 cells.length c5,.slice A6 clues.length c6] 42) (.cells #[.slice A7 sc.length c7,.slice A8 ss.length c8,.int .i64 at_,.bool dn] 57) (.cells #[.int .i64 5,.int .i64 0,.string text] 35) (.cells #[.slice none 0 0,.slice none 0 0,.int .i64 0,.bool false] 57)
  replace hx:=Lib.hid hx
  have e4 : text.toList.isEmpty = true:=by rw [htl];rfl
  replace htl:=Lib.hid htl
  have hu30:=Tryz.underlying57
  have hu36:=Tryz.underlying35
  have hu27:=Tryz.underlying42
  have hu24:=Tryz.underlying39
  have hsl0 : at_ < (sc.length : Int):=by have:=hl0.out;omega
  obtain ⟨xt,hrd⟩ : ∃ t,rdOf ByteArray.empty sc at_ = t:=⟨_,rfl⟩
  have hem : emptyAt sc at_ = xt.toList.isEmpty:=by rw [← hrd];rfl
  rw [hem] at he
  clear hem
  replace hrd:=Lib.hid hrd
  have hsl1 : at_ < (ss.length : Int):=by have:=hl1.out;omega
  go_enter Tryz.func51,Tryz.ntmps51
  go_wp2_with (first | (go_at_call 63;go_must (refine (check_calls (tabs_below hT hx.out.2.2.2.2) (hP.below hx.out.2.2.2.2) (hS.below hx.out.2.2.2.2) hz hzs).mono ?_;rintro e w3 ⟨rfl,hb3⟩;rw [hck.out];have D3:=Lib.hid (DoW.below (w:=w) (⟨hx.out.1,hx.out.2.1,hx.out.2.2.1,hx.out.2.2.2.1,Kd.R_nil _ _ _ _ _,Kd.R_nil _ _ _ _ _,hx.out.2.2.2.2⟩ : DoW w _ _ _ _ _ (.slice none 0 0) (.slice none 0 0) [] []) hb3);clear hb3;have q:=doFacts D3.out)) | (go_at_call 64;go_must (refine (sheet_copied.calls _ c7 sc _ c8 ss at_ dn _ _ _ _ _ (hS.below D3.out.bl).r7 hS.k7 (hS.below D3.out.bl).r8 hS.k8 hcp.out).mono ?_;rintro e w4 ⟨v0,v1,rfl,hr0,hr1,hb4⟩;obtain ⟨g0,k0,rfl⟩:=R_form_n hr0 (n:=sc.length) rfl (by have:=hl0.out;omega);obtain ⟨g1,k1,rfl⟩:=R_form_n hr1 (n:=ss.length) rfl (by have:=hl1.out;omega);have D4a:=DoW.below D3.out hb4;have D4:=Lib.hid (⟨D4a.p,D4a.s,D4a.a,D4a.r,Kd.R_lower hr0 D3.out.bl.size,Kd.R_lower hr1 D3.out.bl.size,D4a.bl⟩ : DoW w w4 _ _ _ _ (.slice (some ⟨g0,0,none⟩) sc.length k0) (.slice (some ⟨g1,0,none⟩) ss.length k1) sc ss);clear q;clear D4a hr0 hr1 hb4;have q:=doFacts D4.out)) | ((with_reducible refine gate_store (t:=57) (p:=4) (v:=.tmp 48) rfl ?_);go_must (refine store_event (w1:=put4 w4 (w.heap.size + 1) (.slice (some ⟨g0,0,none⟩) sc.length k0) (.slice (some ⟨g1,0,none⟩) ss.length k1) (.int .i64 at_) (.bool dn)) (by rfl) (by rfl) (by rfl) ?hr ?_;(case hr=>first | (go_simp;done) | (go_simp;rfl));intro w5 hw5;have Fw5:=put4_facts D4.out.s (.slice (some ⟨g0,0,none⟩) sc.length k0) (.slice (some ⟨g1,0,none⟩) ss.length k1) (.int .i64 at_) (.bool dn);rw [← hw5] at Fw5;have D5:=Lib.hid (D4.out.putS Fw5);clear hw5 Fw5 q;have q:=doFacts D5.out;obtain ⟨adx,eAx,zx⟩:=Kd.at_string (Kd.R_reads' D5.out.x).2.2 at_ ha0 hsl0;cases eAx;have zx:=(show w5.cell? ⟨g0,at_.toNat,none⟩ = some (.string (rdOf ByteArray.empty sc at_)) from by rw [← add_plain];exact zx);rw [hrd.out] at zx)))
  obtain ⟨cs1,hc1⟩:=Kd.R_typed D5.out.b g1 rfl
  obtain ⟨adb,eB,zb⟩:=Kd.at_bool (Kd.R_reads' D5.out.b).2.2 at_ ha0 hsl1
  cases eB
  obtain ⟨bv,hbv⟩ : ∃ b,rdOf false ss at_ = b:=⟨_,rfl⟩
  rw [hbv,add_plain] at zb
  have zb2 : w5.drew.cell? ⟨g1,at_.toNat,none⟩ = some (.bool bv):=zb
  have fb:=blk_frozen (blk_drew hc1) at_.toNat
  replace hc1:=Lib.hid hc1
  have D6:=Lib.hid (D5.out.flip hc1.out at_ (!bv))
  clear zx
  go_region
  generalize (w5.setCell ⟨g1,at_.toNat,none⟩ (.bool (!bv))).drew = w6 at D6 ⊢
  rw [← hbv] at D6
  clear zb zb2 fb hbv q
  have q:=doFacts D6.out
  go_wp2_with (first | ((with_reducible refine gate_store (t:=57) (p:=6) (v:=.tmp 149) rfl ?_);go_must (refine store_event (w1:=put4 w6 (w.heap.size + 1 + 1 + 1) (.slice (some ⟨g0,0,none⟩) sc.length k0) (.slice (some ⟨g1,0,none⟩) ss.length k1) (.int .i64 at_) (.bool dn)) (by rfl) (by rfl) (by rfl) ?hr ?_;(case hr=>first | (go_simp;done) | (go_simp;rfl));intro w9 hw9;have Fw9:=put4_facts D6.out.r (.slice (some ⟨g0,0,none⟩) sc.length k0) (.slice (some ⟨g1,0,none⟩) ss.length k1) (.int .i64 at_) (.bool dn);rw [← hw9] at Fw9;have D9:=Lib.hid (D6.out.putR Fw9);clear hw9 Fw9 q)))
  refine bodyPost_ret (results_ct rfl _ _ (w.heap.size + 1 + 1 + 1) 57 #[.slice (some ⟨g0,0,none⟩) sc.length k0,.slice (some ⟨g1,0,none⟩) ss.length k1,.int .i64 at_,.bool dn] (0,0) _ rfl D9.out.r Tryz.underlying57 rfl (by kernel_rfl)) rfl ?_
  exact ⟨_,_,rfl,D9.out.x,D9.out.b,D9.out.bl⟩
set_option maxHeartbeats 8000000 in
set_option maxRecDepth 1000000 in
theorem do_clear {text : ByteArray} {w : World} (hT : Tabs w) (hP : PuzR A2 c2 bl A3 c3 ri A4 c4 be A5 c5 cells A6 c6 clues w) (hS : ShtR A7 c7 sc A8 c8 ss w) (hz : PuzS title cells clues) (hzs : Small sc) (h0 : scheck title H W bl ri be cells clues sc ss at_ = 0) (htl : text.toList = []) :
    Calls Tryz.prog 51 #[.agg #[.string title,.int .i64 H,.int .i64 W,.slice A2 bl.length c2,.slice A3 ri.length c3,.slice A4 be.length c4,.slice A5 cells.length c5,.slice A6 clues.length c6],.agg #[.slice A7 sc.length c7,.slice A8 ss.length c8,.int .i64 at_,.bool dn],.agg #[.int .i64 7,.int .i64 0,.string text]] w (DoPost w (List.replicate sc.length ⟨#[]⟩,List.replicate ss.length false,at_,dn,0)):=by
  have hck:=h0
  obtain ⟨hgc,hl0,hl1,hl2,ha0,ha1,hpos,h256⟩:=scheck_grid h0
  have hcp : sheet_copied.f sc ss at_ dn = some (sc,ss,at_,dn):=by unfold sheet_copied.f slices_Clone_string_string.f slices_Clone_bool_bool.f;rw [if_pos (by omega),if_pos (by omega)];rfl
  replace hck:=Lib.hid hck
  replace hcp:=Lib.hid hcp
  replace hgc:=Lib.hid hgc
  replace hl0:=Lib.hid hl0
  replace hl1:=Lib.hid hl1
  replace hl2:=Lib.hid hl2
  clear h0
  have hx:=box4 w (.cells #[.string title,.int .i64 H,.int .i64 W,.slice A2 bl.length c2,.slice A3 ri.length c3,.slice A4 be.length c4,.slice A5 cells.length c5,.slice A6 clues.length c6] 42) (.cells #[.slice A7 sc.length c7,.slice A8 ss.length c8,.int .i64 at_,.bool dn] 57) (.cells #[.int .i64 7,.int .i64 0,.string text] 35) (.cells #[.slice none 0 0,.slice none 0 0,.int .i64 0,.bool false] 57)
  replace hx:=Lib.hid hx
  have e4 : text.toList.isEmpty = true:=by rw [htl];rfl
  replace htl:=Lib.hid htl
  have hu30:=Tryz.underlying57
  have hu36:=Tryz.underlying35
  have hu27:=Tryz.underlying42
  have hu24:=Tryz.underlying39
  have hzx:=Lib.hid (fun (w : World)=>(show (zeroValue 9).run Tryz.prog w = .ok (.string ⟨#[]⟩) w from by kernel_rfl))
  have hzb:=Lib.hid (fun (w : World)=>(show (zeroValue 4).run Tryz.prog w = .ok (.bool false) w from by kernel_rfl))
  have hpx : Hid (0 < sc.length):=Lib.hid (by have:=hl0.out;omega)
  have hpb : Hid (0 < ss.length):=Lib.hid (by have:=hl1.out;omega)
  go_enter Tryz.func51,Tryz.ntmps51
  go_wp2_with (first | (go_at_call 63;go_must (refine (check_calls (tabs_below hT hx.out.2.2.2.2) (hP.below hx.out.2.2.2.2) (hS.below hx.out.2.2.2.2) hz hzs).mono ?_;rintro e w3 ⟨rfl,hb3⟩;rw [hck.out];have D3:=Lib.hid (DoW.below (w:=w) (⟨hx.out.1,hx.out.2.1,hx.out.2.2.1,hx.out.2.2.2.1,Kd.R_nil _ _ _ _ _,Kd.R_nil _ _ _ _ _,hx.out.2.2.2.2⟩ : DoW w _ _ _ _ _ (.slice none 0 0) (.slice none 0 0) [] []) hb3);clear hb3;have q:=doFacts D3.out)) | (go_at_call 64;go_must (refine (sheet_copied.calls _ c7 sc _ c8 ss at_ dn _ _ _ _ _ (hS.below D3.out.bl).r7 hS.k7 (hS.below D3.out.bl).r8 hS.k8 hcp.out).mono ?_;rintro e w4 ⟨v0,v1,rfl,hr0,hr1,hb4⟩;obtain ⟨g0,k0,rfl⟩:=R_form_n hr0 (n:=sc.length) rfl (by have:=hl0.out;omega);obtain ⟨g1,k1,rfl⟩:=R_form_n hr1 (n:=ss.length) rfl (by have:=hl1.out;omega);have D4a:=DoW.below D3.out hb4;have D4:=Lib.hid (⟨D4a.p,D4a.s,D4a.a,D4a.r,Kd.R_lower hr0 D3.out.bl.size,Kd.R_lower hr1 D3.out.bl.size,D4a.bl⟩ : DoW w w4 _ _ _ _ (.slice (some ⟨g0,0,none⟩) sc.length k0) (.slice (some ⟨g1,0,none⟩) ss.length k1) sc ss);clear q;clear D4a hr0 hr1 hb4;have q:=doFacts D4.out)) | ((with_reducible refine gate_store (t:=57) (p:=4) (v:=.tmp 48) rfl ?_);go_must (refine store_event (w1:=put4 w4 (w.heap.size + 1) (.slice (some ⟨g0,0,none⟩) sc.length k0) (.slice (some ⟨g1,0,none⟩) ss.length k1) (.int .i64 at_) (.bool dn)) (by rfl) (by rfl) (by rfl) ?hr ?_;(case hr=>first | (go_simp;done) | (go_simp;rfl));intro w5 hw5;have Fw5:=put4_facts D4.out.s (.slice (some ⟨g0,0,none⟩) sc.length k0) (.slice (some ⟨g1,0,none⟩) ss.length k1) (.int .i64 at_) (.bool dn);rw [← hw5] at Fw5;have D5:=Lib.hid (D4.out.putS Fw5);clear hw5 Fw5 q;have q:=doFacts D5.out)) | ((with_reducible refine gate_ (.call { callee:=.builtin .clear,args:=#[.tmp 146],argTypes:=#[40] }) rfl ?_);go_must (have hcr:=clear_run (.string ⟨#[]⟩) rfl rfl Tryz.underlying40 hzx.out D5.out.x hpx.out;refine event_at (v:=.tuple #[]) (w1:=w5.setCells g0 0 (List.replicate sc.length (.string ⟨#[]⟩))) (by rfl) ?hr ?_;(case hr=>first | (go_simp;done) | (go_simp;rfl));intro w6 hw6;have D6:=Lib.hid D5.out.clearX;rw [← hw6] at D6;clear hcr hw6 q;have q:=doFacts D6.out)) | ((with_reducible refine gate_ (.call { callee:=.builtin .clear,args:=#[.tmp 148],argTypes:=#[37] }) rfl ?_);go_must (have hcr:=clear_run (.bool false) rfl rfl Tryz.underlying37 hzb.out D6.out.b hpb.out;refine event_at (v:=.tuple #[]) (w1:=w6.setCells g1 0 (List.replicate ss.length (.bool false))) (by rfl) ?hr ?_;(case hr=>first | (go_simp;done) | (go_simp;rfl));intro w7 hw7;have D7:=Lib.hid D6.out.clearB;rw [← hw7] at D7;clear hcr hw7 q;have q:=doFacts D7.out)) | ((with_reducible refine gate_store (t:=57) (p:=6) (v:=.tmp 149) rfl ?_);go_must (refine store_event (w1:=put4 w7 (w.heap.size + 1 + 1 + 1) (.slice (some ⟨g0,0,none⟩) sc.length k0) (.slice (some ⟨g1,0,none⟩) ss.length k1) (.int .i64 at_) (.bool dn)) (by rfl) (by rfl) (by rfl) ?hr ?_;(case hr=>first | (go_simp;done) | (go_simp;rfl));intro w9 hw9;have Fw9:=put4_facts D7.out.r (.slice (some ⟨g0,0,none⟩) sc.length k0) (.slice (some ⟨g1,0,none⟩) ss.length k1) (.int .i64 at_) (.bool dn);rw [← hw9] at Fw9;have D9:=Lib.hid (D7.out.putR Fw9);clear hw9 Fw9 q)))
  refine bodyPost_ret (results_ct rfl _ _ (w.heap.size + 1 + 1 + 1) 57 #[.slice (some ⟨g0,0,none⟩) sc.length k0,.slice (some ⟨g1,0,none⟩) ss.length k1,.int .i64 at_,.bool dn] (0,0) _ rfl D9.out.r Tryz.underlying57 rfl (by kernel_rfl)) rfl ?_
  exact ⟨_,_,rfl,D9.out.x,D9.out.b,D9.out.bl⟩
theorem badAct_no {kind cell : Int} {text : ByteArray} (h : badAct kind cell text = false) : (1 ≤ kind ∧ kind ≤ 7) ∧ (kind ≠ 1 → text.toList = []) ∧ (kind ≠ 3 → cell = 0):=by
  refine ⟨⟨?_,?_⟩,fun hk=>?_,fun hk=>?_⟩
  · by_cases c : kind < 1
    · simp [badAct,c] at h
    · omega
  · by_cases c : 7 < kind
    · simp [badAct,c] at h
    · omega
  · by_cases c : text.toList = []
    · exact c
    · exfalso;simp [badAct,hk,c] at h
  · by_cases c : cell = 0
    · exact c
    · exfalso;simp [badAct,hk,c] at h
theorem sheet_Do.calls {kind cell : Int} {text : ByteArray} {w : World} (hT : Tabs w) (hP : PuzR A2 c2 bl A3 c3 ri A4 c4 be A5 c5 cells A6 c6 clues w) (hS : ShtR A7 c7 sc A8 c8 ss w) (hz : PuzS title cells clues) (hzs : Small sc) (hzt : text.size ≤ 1048576) :
    Calls Tryz.prog 51 #[.agg #[.string title,.int .i64 H,.int .i64 W,.slice A2 bl.length c2,.slice A3 ri.length c3,.slice A4 be.length c4,.slice A5 cells.length c5,.slice A6 clues.length c6],.agg #[.slice A7 sc.length c7,.slice A8 ss.length c8,.int .i64 at_,.bool dn],.agg #[.int .i64 kind,.int .i64 cell,.string text]] w (DoPost w (doOf title H W bl ri be cells clues sc ss at_ dn kind cell text)):=by
  unfold doOf
  by_cases h0 : scheck title H W bl ri be cells clues sc ss at_ = 0
  · rw [if_pos h0]
    cases hb : badAct kind cell text with
    | true=>exact do_bad hT hP hS hz hzs h0 hb
    | false =>
      obtain ⟨hk,hx,hc⟩:=badAct_no hb
      clear hb
      have hkk : kind = 1 ∨ kind = 2 ∨ kind = 3 ∨ kind = 4 ∨ kind = 5 ∨ kind = 6 ∨ kind = 7:=by omega
      simp only [Bool.false_eq_true,if_false]
      rcases hkk with rfl | rfl | rfl | rfl | rfl | rfl | rfl
      · obtain rfl:=hc (by decide)
        have e : doAct H W bl ri be cells sc ss at_ dn 1 0 text = if ucount (ufold text false) < 1 ∨ 3 < ucount (ufold text false) then doErr 33 else (sc.set at_.toNat (ufold text false),ss.set at_.toNat (!(ufold text false).toList.isEmpty),stepOf H W bl ri be at_ dn 1,dn,0):=by unfold doAct;rw [if_pos rfl]
        rw [e]
        by_cases h1 : ucount (ufold text false) < 1 ∨ 3 < ucount (ufold text false)
        · rw [if_pos h1];exact do_type_no hT hP hS hz hzs h0 hzt h1
        · rw [if_neg h1];exact do_type hT hP hS hz hzs h0 hzt h1
      · obtain rfl:=hc (by decide)
        cases he : emptyAt sc at_ with
        | true =>
          have e : doAct H W bl ri be cells sc ss at_ dn 2 0 text = (sc.set (stepOf H W bl ri be at_ dn (-1)).toNat ⟨#[]⟩,ss.set (stepOf H W bl ri be at_ dn (-1)).toNat false,stepOf H W bl ri be at_ dn (-1),dn,0):=by unfold doAct;rw [if_neg (by decide),if_pos rfl,if_pos he]
          rw [e];exact do_wipe_back hT hP hS hz hzs h0 (hx (by decide)) he
        | false =>
          have e : doAct H W bl ri be cells sc ss at_ dn 2 0 text = (sc.set at_.toNat ⟨#[]⟩,ss.set at_.toNat false,at_,dn,0):=by unfold doAct;rw [if_neg (by decide),if_pos rfl,if_neg (by rw [he];decide)]
          rw [e];exact do_wipe_here hT hP hS hz hzs h0 (hx (by decide)) he
      · have e : doAct H W bl ri be cells sc ss at_ dn 3 cell text = if gopen bl cell then (if cell = at_ then (sc,ss,at_,!dn,0) else (sc,ss,cell,dn,0)) else doErr 230:=by unfold doAct;rw [if_neg (by decide),if_neg (by decide),if_pos rfl]
        rw [e]
        cases ho : gopen bl cell with
        | true =>
          by_cases hn : cell = at_
          · rw [if_pos rfl,if_pos hn];exact do_move_at hT hP hS hz hzs h0 (hx (by decide)) ho hn
          · rw [if_pos rfl,if_neg hn];exact do_move_on hT hP hS hz hzs h0 (hx (by decide)) ho hn
        | false=>rw [if_neg (by decide)];exact do_move_no hT hP hS hz hzs h0 (hx (by decide)) ho
      · obtain rfl:=hc (by decide)
        have e : doAct H W bl ri be cells sc ss at_ dn 4 0 text = (sc,ss,at_,!dn,0):=by unfold doAct;rw [if_neg (by decide),if_neg (by decide),if_neg (by decide),if_pos rfl]
        rw [e];exact do_swap hT hP hS hz hzs h0 (hx (by decide))
      · obtain rfl:=hc (by decide)
        have e : doAct H W bl ri be cells sc ss at_ dn 5 0 text = if emptyAt sc at_ then doErr 140 else (sc,ss.set at_.toNat (!rdOf false ss at_),at_,dn,0):=by unfold doAct;rw [if_neg (by decide),if_neg (by decide),if_neg (by decide),if_neg (by decide),if_pos rfl]
        rw [e]
        cases he : emptyAt sc at_ with
        | true=>rw [if_pos rfl];exact do_pencil_no hT hP hS hz hzs h0 (hx (by decide)) he
        | false=>rw [if_neg (by decide)];exact do_pencil hT hP hS hz hzs h0 (hx (by decide)) he
      · obtain rfl:=hc (by decide)
        have e : doAct H W bl ri be cells sc ss at_ dn 6 0 text = if emptyAt cells at_ then doErr 140 else (sc.set at_.toNat (rdOf ByteArray.empty cells at_),ss.set at_.toNat (!emptyAt cells at_),at_,dn,0):=by unfold doAct;rw [if_neg (by decide),if_neg (by decide),if_neg (by decide),if_neg (by decide),if_neg (by decide),if_pos rfl]
        rw [e]
        by_cases he : emptyAt cells at_ = true
        · rw [if_pos he];exact do_reveal_no hT hP hS hz hzs h0 (hx (by decide)) he
        · rw [if_neg he];exact do_reveal hT hP hS hz hzs h0 (hx (by decide)) (by simpa using he)
      · obtain rfl:=hc (by decide)
        have e : doAct H W bl ri be cells sc ss at_ dn 7 0 text = (List.replicate sc.length ⟨#[]⟩,List.replicate ss.length false,at_,dn,0):=by unfold doAct;rw [if_neg (by decide),if_neg (by decide),if_neg (by decide),if_neg (by decide),if_neg (by decide),if_neg (by decide)]
        rw [e];exact do_clear hT hP hS hz hzs h0 (hx (by decide))
  · rw [if_neg h0]
    exact do_wrong hT hP hS hz hzs h0
end Go.Proofs.YtjopbfidjapmbaaGreatDoor.Q
