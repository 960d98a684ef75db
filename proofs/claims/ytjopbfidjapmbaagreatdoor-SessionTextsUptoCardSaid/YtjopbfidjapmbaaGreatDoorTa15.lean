/- PART 15 OF A PROOF: Lean functions, and that the program computes them; written by hand and by a program. Not trusted: Lean checks it. -/
import Derived.Lib.Atoi
import Derived.Lib.IndexMore
import Derived.Lib.ItoaNum
import Derived.Lib.MapLaws
import Derived.Test.YtjopbfidjapmbaaGreatDoorTa2
import Derived.Test.YtjopbfidjapmbaaGreatDoorTa11
import Derived.Test.YtjopbfidjapmbaaGreatDoorTa12
import Derived.Test.YtjopbfidjapmbaaGreatDoorTa14
set_option linter.unusedVariables false
set_option linter.unusedSimpArgs false
section
namespace Go.Proofs.YtjopbfidjapmbaaGreatDoor.Q
open Go.RowKit Go.Proofs.YtjopbfidjapmbaaGreatDoorW.PrintWords Go.Proofs.YtjopbfidjapmbaaGreatDoorW.PrintLast Go.Proofs.YtjopbfidjapmbaaGreatDoorW.PrintMore
set_option linter.unusedVariables false
set_option linter.unusedSimpArgs false
open Go.Proofs.YtjopbfidjapmbaaGreatDoorS
section
variable {α : Type} {d : Kd α} {e base g t t' : Nat} {ok : Nat → Prop} {w w' : World} {v u u' : Value} {xs : List α} {cs : Array Value}
theorem R_pushed (h : d.R e w base ok v xs) (hk : Kept w w' (fun k=>k = g ∨ some k = u.ownBlock)) (hg : w.heap[g]? = some (.cells cs t (0,0))) (ht : ∀ q,q ∈ e :: d.E → q ≠ t) (hu : ∀ k,u.ownBlock = some k → ∃ cells,w.heap[k]? = some (.cells cells t' (0,0))) (ht' : ∀ q,q ∈ e :: d.E → q ≠ t') : d.R e w' base ok v xs:=by
  refine Kd.R_mono (Kd.R_kept (Kd.R_bound h) hk ?_) (fun k hk=>hk.1)
  rintro k ⟨_,_,_,q,hq,cells,hc⟩ (rfl | he)
  · exact blk_ne hc hg (ht q hq) rfl
  · obtain ⟨c2,h2⟩:=hu k he.symm
    exact blk_ne hc h2 (ht' q hq) rfl
theorem R_pushed2 (h : d.R e w base (fun k=>ok k ∧ some k ≠ u.ownBlock) v xs) (hk : Kept w w' (fun k=>k = g ∨ some k = u.ownBlock)) (hg : w.heap[g]? = some (.cells cs t (0,0))) (ht : ∀ q,q ∈ e :: d.E → q ≠ t) (hat : u'.ownBlock = u.ownBlock ∨ ∃ b,u'.ownBlock = some b ∧ w.heap.size ≤ b) : d.R e w' base (fun k=>ok k ∧ some k ≠ u'.ownBlock) v xs:=by
  refine Kd.R_mono (Kd.R_kept (Kd.R_bound h) hk ?_) ?_
  · rintro k ⟨ho,_,_,q,hq,cells,hc⟩ (rfl | he)
    · exact blk_ne hc hg (ht q hq) rfl
    · exact ho.2 he
  · rintro k ⟨ho,_,hlt,_⟩
    refine ⟨ho.1,?_⟩
    rcases hat with hat | ⟨b,hb,hle⟩
    · rw [hat];exact ho.2
    · rw [hb]
      intro he
      injection he with he
      omega
theorem R_popped (h : d.R e w base ok v xs) (hk : Kept w w' (fun k=>k = g)) (hg : w.heap[g]? = some (.cells cs t (0,0))) (ht : ∀ q,q ∈ e :: d.E → q ≠ t) : d.R e w' base ok v xs:=by
  refine Kd.R_mono (Kd.R_kept (Kd.R_bound h) hk ?_) (fun k hk=>hk.1)
  rintro k ⟨_,_,_,q,hq,cells,hc⟩ rfl
  exact blk_ne hc hg (ht q hq) rfl
end
theorem own_cut (A : Option Addr) (m n c : Nat) : (Value.slice A m c).ownBlock = (Value.slice A n c).ownBlock:=by cases A <;> rfl
theorem cells11 {w : World} {g t : Nat} {c0 c1 c2 c3 c4 c5 c6 c7 c8 c9 c10 : Value} (h : w.heap[g]? = some (.cells #[c0,c1,c2,c3,c4,c5,c6,c7,c8,c9,c10] t (0,0))) :
    w.cell? ⟨g,0,none⟩ = some c0 ∧ w.cell? ⟨g,1,none⟩ = some c1 ∧ w.cell? ⟨g,2,none⟩ = some c2 ∧ w.cell? ⟨g,3,none⟩ = some c3 ∧ w.cell? ⟨g,4,none⟩ = some c4 ∧ w.cell? ⟨g,5,none⟩ = some c5 ∧ w.cell? ⟨g,6,none⟩ = some c6 ∧ w.cell? ⟨g,7,none⟩ = some c7 ∧ w.cell? ⟨g,8,none⟩ = some c8 ∧ w.cell? ⟨g,9,none⟩ = some c9 ∧ w.cell? ⟨g,10,none⟩ = some c10 :=
  ⟨(blk_cell h 0).trans rfl,(blk_cell h 1).trans rfl,(blk_cell h 2).trans rfl,(blk_cell h 3).trans rfl,(blk_cell h 4).trans rfl,(blk_cell h 5).trans rfl,(blk_cell h 6).trans rfl,(blk_cell h 7).trans rfl,(blk_cell h 8).trans rfl,(blk_cell h 9).trans rfl,(blk_cell h 10).trans rfl⟩
section
variable {own : Nat → Prop} {w w' : World} {base g c : Nat} {P : Puz} {v2 v3 v4 v5 v6 vs vl vo u : Value} {sh : List Sht} {log on : List Act3} {A : Option Addr}
theorem SesV.pushS (h : SesV own w base g P v2 v3 v4 v5 v6 vs vl vo sh log on) {x : Sht} (hb : w'.heap[g]? = some (.cells #[.string P.t,.int .i64 P.H,.int .i64 P.W,v2,v3,v4,v5,v6,u,vl,vo] 85 (0,0))) (hR : Kd.R kSht 57 w' base own u (sh ++ [x])) (hk : Kept w w' (fun k=>k = g ∨ some k = vs.ownBlock)) :
    SesV own w' base g P v2 v3 v4 v5 v6 u vl vo (sh ++ [x]) log on :=
  ⟨hb,h.ge,h.og,R_pushed h.r2 hk h.blk (by decide) (Kd.R_typed h.rs) (by decide),R_pushed h.r3 hk h.blk (by decide) (Kd.R_typed h.rs) (by decide),R_pushed h.r4 hk h.blk (by decide) (Kd.R_typed h.rs) (by decide),R_pushed h.r5 hk h.blk (by decide) (Kd.R_typed h.rs) (by decide),R_pushed h.r6 hk h.blk (by decide) (Kd.R_typed h.rs) (by decide),hR,R_pushed h.rl hk h.blk (by decide) (Kd.R_typed h.rs) (by decide),R_pushed h.ro hk h.blk (by decide) (Kd.R_typed h.rs) (by decide)⟩
theorem SesV.pushL (h : SesV own w base g P v2 v3 v4 v5 v6 vs vl vo sh log on) {x : Act3} (hb : w'.heap[g]? = some (.cells #[.string P.t,.int .i64 P.H,.int .i64 P.W,v2,v3,v4,v5,v6,vs,u,vo] 85 (0,0))) (hR : Kd.R kAct 35 w' base (fun k=>own k ∧ some k ≠ vo.ownBlock) u (log ++ [x])) (hk : Kept w w' (fun k=>k = g ∨ some k = vl.ownBlock)) (hat : u.ownBlock = vl.ownBlock ∨ ∃ b,u.ownBlock = some b ∧ w.heap.size ≤ b) :
    SesV own w' base g P v2 v3 v4 v5 v6 vs u vo sh (log ++ [x]) on :=
  ⟨hb,h.ge,h.og,R_pushed h.r2 hk h.blk (by decide) (Kd.R_typed h.rl) (by decide),R_pushed h.r3 hk h.blk (by decide) (Kd.R_typed h.rl) (by decide),R_pushed h.r4 hk h.blk (by decide) (Kd.R_typed h.rl) (by decide),R_pushed h.r5 hk h.blk (by decide) (Kd.R_typed h.rl) (by decide),R_pushed h.r6 hk h.blk (by decide) (Kd.R_typed h.rl) (by decide),R_pushed h.rs hk h.blk (by decide) (Kd.R_typed h.rl) (by decide),hR,R_pushed2 h.ro hk h.blk (by decide) hat⟩
theorem SesV.pushO (h : SesV own w base g P v2 v3 v4 v5 v6 vs vl vo sh log on) {x : Act3} (hb : w'.heap[g]? = some (.cells #[.string P.t,.int .i64 P.H,.int .i64 P.W,v2,v3,v4,v5,v6,vs,vl,u] 85 (0,0))) (hR : Kd.R kAct 35 w' base (fun k=>own k ∧ some k ≠ vl.ownBlock) u (on ++ [x])) (hk : Kept w w' (fun k=>k = g ∨ some k = vo.ownBlock)) (hat : u.ownBlock = vo.ownBlock ∨ ∃ b,u.ownBlock = some b ∧ w.heap.size ≤ b) :
    SesV own w' base g P v2 v3 v4 v5 v6 vs vl u sh log (on ++ [x]) :=
  ⟨hb,h.ge,h.og,R_pushed h.r2 hk h.blk (by decide) (Kd.R_typed h.ro) (by decide),R_pushed h.r3 hk h.blk (by decide) (Kd.R_typed h.ro) (by decide),R_pushed h.r4 hk h.blk (by decide) (Kd.R_typed h.ro) (by decide),R_pushed h.r5 hk h.blk (by decide) (Kd.R_typed h.ro) (by decide),R_pushed h.r6 hk h.blk (by decide) (Kd.R_typed h.ro) (by decide),R_pushed h.rs hk h.blk (by decide) (Kd.R_typed h.ro) (by decide),R_pushed2 h.rl hk h.blk (by decide) hat,hR⟩
theorem SesV.popS (h : SesV own w base g P v2 v3 v4 v5 v6 (.slice A sh.length c) vl vo sh log on) (hb : w'.heap[g]? = some (.cells #[.string P.t,.int .i64 P.H,.int .i64 P.W,v2,v3,v4,v5,v6,.slice A (sh.length - 1) c,vl,vo] 85 (0,0))) (hk : Kept w w' (fun k=>k = g)) :
    SesV own w' base g P v2 v3 v4 v5 v6 (.slice A (sh.length - 1) c) vl vo (sh.take (sh.length - 1)) log on :=
  ⟨hb,h.ge,h.og,R_popped h.r2 hk h.blk (by decide),R_popped h.r3 hk h.blk (by decide),R_popped h.r4 hk h.blk (by decide),R_popped h.r5 hk h.blk (by decide),R_popped h.r6 hk h.blk (by decide),Kd.R_take (R_popped h.rs hk h.blk (by decide)) (by omega),R_popped h.rl hk h.blk (by decide),R_popped h.ro hk h.blk (by decide)⟩
theorem SesV.popL (h : SesV own w base g P v2 v3 v4 v5 v6 vs (.slice A log.length c) vo sh log on) (hb : w'.heap[g]? = some (.cells #[.string P.t,.int .i64 P.H,.int .i64 P.W,v2,v3,v4,v5,v6,vs,.slice A (log.length - 1) c,vo] 85 (0,0))) (hk : Kept w w' (fun k=>k = g)) :
    SesV own w' base g P v2 v3 v4 v5 v6 vs (.slice A (log.length - 1) c) vo sh (log.take (log.length - 1)) on :=
  ⟨hb,h.ge,h.og,R_popped h.r2 hk h.blk (by decide),R_popped h.r3 hk h.blk (by decide),R_popped h.r4 hk h.blk (by decide),R_popped h.r5 hk h.blk (by decide),R_popped h.r6 hk h.blk (by decide),R_popped h.rs hk h.blk (by decide),Kd.R_take (R_popped h.rl hk h.blk (by decide)) (by omega),by rw [own_cut A _ log.length];exact R_popped h.ro hk h.blk (by decide)⟩
theorem SesV.popO (h : SesV own w base g P v2 v3 v4 v5 v6 vs vl (.slice A on.length c) sh log on) (hb : w'.heap[g]? = some (.cells #[.string P.t,.int .i64 P.H,.int .i64 P.W,v2,v3,v4,v5,v6,vs,vl,.slice A (on.length - 1) c] 85 (0,0))) (hk : Kept w w' (fun k=>k = g)) :
    SesV own w' base g P v2 v3 v4 v5 v6 vs vl (.slice A (on.length - 1) c) sh log (on.take (on.length - 1)) :=
  ⟨hb,h.ge,h.og,R_popped h.r2 hk h.blk (by decide),R_popped h.r3 hk h.blk (by decide),R_popped h.r4 hk h.blk (by decide),R_popped h.r5 hk h.blk (by decide),R_popped h.r6 hk h.blk (by decide),R_popped h.rs hk h.blk (by decide),by rw [own_cut A _ on.length];exact R_popped h.rl hk h.blk (by decide),Kd.R_take (R_popped h.ro hk h.blk (by decide)) (by omega)⟩
theorem SesV.none (h : SesV own w base g P v2 v3 v4 v5 v6 vs vl vo sh log on) (hb : w'.heap[g]? = some (.cells #[.string P.t,.int .i64 P.H,.int .i64 P.W,v2,v3,v4,v5,v6,vs,vl,.slice none 0 0] 85 (0,0))) (hk : Kept w w' (fun k=>k = g)) :
    SesV own w' base g P v2 v3 v4 v5 v6 vs vl (.slice none 0 0) sh log [] :=
  ⟨hb,h.ge,h.og,R_popped h.r2 hk h.blk (by decide),R_popped h.r3 hk h.blk (by decide),R_popped h.r4 hk h.blk (by decide),R_popped h.r5 hk h.blk (by decide),R_popped h.r6 hk h.blk (by decide),R_popped h.rs hk h.blk (by decide),Kd.R_mono (R_popped h.rl hk h.blk (by decide)) (fun k hk=>⟨hk.1,by simp [Value.ownBlock]⟩),Kd.R_nil _ _ _ _ _⟩
end
def SesOut (own : Nat → Prop) (w : World) (base g : Nat) (P : Puz) (S : SS) (w' : World) : Prop:=Ses (fun k=>own k ∨ w.heap.size ≤ k) w' base g P S ∧ Kept w w' own ∧ Below base w w'
theorem SesOut.same {own : Nat → Prop} {w w' : World} {base g : Nat} {P : Puz} {v2 v3 v4 v5 v6 vs vl vo : Value} {sh : List Sht} {log on : List Act3} (h : SesV own w base g P v2 v3 v4 v5 v6 vs vl vo sh log on) (hb : Below w.heap.size w w') : SesOut own w base g P ⟨sh,log,on⟩ w' :=
  ⟨⟨_,_,_,_,_,_,_,_,(h.below hb).mono (fun _ h=>.inl h)⟩,Kept.of_below hb _,hb.mono (Nat.le_trans h.ge (Nat.le_of_lt (blk_lt h.blk)))⟩
structure ShtS (s : Sht) : Prop where
  sm : Small s.1
  l : s.1.length ≤ 1048576
  m : s.2.1.length ≤ 1048576
end Go.Proofs.YtjopbfidjapmbaaGreatDoor.Q
end
section
namespace Go.Proofs.YtjopbfidjapmbaaGreatDoor.Q
open Go.RowKit Go.Proofs.YtjopbfidjapmbaaGreatDoorW.PrintWords Go.Proofs.YtjopbfidjapmbaaGreatDoorW.PrintLast Go.Proofs.YtjopbfidjapmbaaGreatDoorW.PrintMore
set_option linter.unusedVariables false
set_option linter.unusedSimpArgs false
open Go.Proofs.YtjopbfidjapmbaaGreatDoorS
structure Rsheet (bl : List Bool) (cells sc : List ByteArray) (ss : List Bool) (at_ : Int) : Prop where
  l : sc.length = cells.length
  m : ss.length = cells.length
  b : cells.length = bl.length
  good : ∀ j : Nat,j < sc.length → pbad1 bl sc j = false
  sure : ∀ j : Nat,j < sc.length → (rdOf ByteArray.empty sc (j : Int)).toList = [] → rdOf false ss (j : Int) = false
  open_ : gopen bl at_ = true
theorem rdOf_set {α : Type} (d : α) (l : List α) (i : Nat) (x : α) (j : Nat) (hi : i < l.length) : rdOf d (l.set i x) (j : Int) = if i = j then x else rdOf d l (j : Int):=by
  unfold rdOf
  rw [Int.toNat_natCast,List.getD_eq_getElem?_getD,List.getD_eq_getElem?_getD,List.getElem?_set]
  by_cases h : i = j
  · rw [if_pos h,if_pos h,if_pos hi];rfl
  · rw [if_neg h,if_neg h]
theorem pbad1_letter {bl : List Bool} {sc : List ByteArray} {j : Nat} (h : pbad1 bl sc j = false) : (rdOf ByteArray.empty sc (j : Int)).toList = [] ∨ (rdOf false bl (j : Int) = false ∧ uletter (rdOf ByteArray.empty sc (j : Int)) = true):=by
  unfold pbad1 at h
  by_cases e : (rdOf ByteArray.empty sc (j : Int)).toList = []
  · exact .inl e
  · rw [toList_nil.2 e] at h
    right
    simpa using h
theorem pbad1_of {bl : List Bool} {sc : List ByteArray} {j : Nat} (h : (rdOf ByteArray.empty sc (j : Int)).toList = [] ∨ (rdOf false bl (j : Int) = false ∧ uletter (rdOf ByteArray.empty sc (j : Int)) = true)) : pbad1 bl sc j = false:=by
  unfold pbad1
  rcases h with e | ⟨e1,e2⟩
  · rw [e];rfl
  · rw [e1,e2];simp
theorem gopen_rd {bl : List Bool} {i : Int} (h : gopen bl i = true) : 0 ≤ i ∧ i < bl.length ∧ rdOf false bl i = false:=by
  unfold gopen at h
  simp only [Bool.and_eq_true,decide_eq_true_eq,Bool.not_eq_true'] at h
  exact ⟨h.1.1,h.1.2,h.2⟩
theorem Rsheet.put {bl : List Bool} {cells sc : List ByteArray} {ss : List Bool} {at_ i at2 : Int} (h : Rsheet bl cells sc ss at_) (hi : gopen bl i = true) (h2 : gopen bl at2 = true) (x : ByteArray) (b : Bool) (hx : (x.toList = [] ∧ b = false) ∨ uletter x = true) (hne : uletter x = true → x.toList ≠ []) : Rsheet bl cells (sc.set i.toNat x) (ss.set i.toNat b) at2:=by
  obtain ⟨hi0,hi1,hib⟩:=gopen_rd hi
  have e : ((i.toNat : Nat) : Int) = i:=by omega
  have hl : i.toNat < sc.length:=by have:=h.l;have:=h.b;omega
  have hm : i.toNat < ss.length:=by have:=h.m;have:=h.b;omega
  refine ⟨by rw [List.length_set];exact h.l,by rw [List.length_set];exact h.m,h.b,fun j hj=>?_,fun j hj=>?_,h2⟩
  · rw [List.length_set] at hj
    apply pbad1_of
    rw [rdOf_set _ _ _ _ _ hl]
    by_cases hij : i.toNat = j
    · rw [if_pos hij,← hij,e]
      rcases hx with hx | hx
      · exact .inl hx.1
      · exact .inr ⟨hib,hx⟩
    · rw [if_neg hij]
      exact pbad1_letter (h.good j hj)
  · rw [List.length_set] at hj
    rw [rdOf_set _ _ _ _ _ hl,rdOf_set _ _ _ _ _ hm]
    by_cases hij : i.toNat = j
    · rw [if_pos hij,if_pos hij]
      intro h0
      rcases hx with hx | hx
      · exact hx.2
      · exact absurd h0 (hne hx)
    · rw [if_neg hij,if_neg hij]
      exact h.sure j hj
end Go.Proofs.YtjopbfidjapmbaaGreatDoor.Q
end
section
namespace Go.Proofs.YtjopbfidjapmbaaGreatDoor.Q
open Go.RowKit Go.Proofs.YtjopbfidjapmbaaGreatDoorW.PrintWords Go.Proofs.YtjopbfidjapmbaaGreatDoorW.PrintLast Go.Proofs.YtjopbfidjapmbaaGreatDoorW.PrintMore
set_option linter.unusedVariables false
set_option linter.unusedSimpArgs false
open Go.Proofs.YtjopbfidjapmbaaGreatDoorS
def shN (l : List Sht) (i : Nat) : Sht:=l.getD i ([],[],0,false)
def acN (l : List Act3) (i : Nat) : Act3:=l.getD i z35
theorem topOf_eq {l : List Sht} (h : 0 < l.length) : topOf l = shN l (l.length - 1):=by
  unfold topOf rdSht shN
  rw [show ((l.length : Int) - 1).toNat = l.length - 1 by omega]
theorem lastOf_eq {l : List Act3} (h : 0 < l.length) : lastOf l = acN l (l.length - 1):=by
  unfold lastOf acN rdAct rd_T35
  rw [show ((l.length : Int) - 1).toNat = l.length - 1 by omega]
theorem shN_mem {l : List Sht} {i : Nat} (h : i < l.length) : shN l i ∈ l:=by
  unfold shN
  rw [List.getD_eq_getElem?_getD,List.getElem?_eq_getElem h]
  exact List.getElem_mem h
theorem acN_mem {l : List Act3} {i : Nat} (h : i < l.length) : acN l i ∈ l:=by
  unfold acN
  rw [List.getD_eq_getElem?_getD,List.getElem?_eq_getElem h]
  exact List.getElem_mem h
theorem take_snoc {α : Type} {l : List α} {k : Nat} (z : α) (h : k < l.length) : l.take k ++ [l.getD k z] = l.take (k + 1):=by
  rw [List.getD_eq_getElem?_getD,List.getElem?_eq_getElem h,Option.getD_some,List.take_append_getElem h]
structure Run (P : Puz) (sh : List Sht) (log : List Act3) : Prop where
  n : sh.length = log.length + 1
  d : ∀ i,i < log.length → doP P (shN sh i) (acN log i) = (shN sh (i + 1),0)
theorem sDo_ok {P : Puz} {sh : List Sht} {log : List Act3} {a : Act3} {x : Sht} (hl : log.length < 2000) (hd : doP P (topOf sh) a = (x,0)) : sDo P ⟨sh,log,[]⟩ a = (⟨sh ++ [x],log ++ [a],[]⟩,0):=by
  unfold sDo sAct
  dsimp only
  rw [if_neg (by omega),hd]
  rfl
end Go.Proofs.YtjopbfidjapmbaaGreatDoor.Q
end
section
namespace Go.Proofs.YtjopbfidjapmbaaGreatDoor.Q
open Go.RowKit Go.Proofs.YtjopbfidjapmbaaGreatDoorW.PrintWords Go.Proofs.YtjopbfidjapmbaaGreatDoorW.PrintLast Go.Proofs.YtjopbfidjapmbaaGreatDoorW.PrintMore
open Go.ChangeShapes Go.WideShapes Go.ChangeAt Go.Joins
set_option linter.unusedVariables false
def actOf (x : ActV) : Act3:=⟨x.1,x.2.1,x.2.2⟩
theorem acts_C {A : Option Addr} {c : Nat} {l : List ActV} {w : World} (h : ActsR A c l w) : Kd.C kAct w A (l.map actOf).length (l.map actOf):=by
  refine ⟨rfl,by rw [List.length_map];exact h.m,fun hn=>?_⟩
  rw [List.length_map] at hn
  obtain ⟨ad,e,_⟩:=h.cell 0 l[0] (List.getElem?_eq_getElem hn)
  refine ⟨ad,e,fun j p hp=>?_⟩
  rw [List.getElem?_map,Option.map_eq_some_iff] at hp
  obtain ⟨x,hx,rfl⟩:=hp
  obtain ⟨ad2,e2,h0,h1,h2⟩:=h.cell j x hx
  rw [e] at e2
  injection e2 with e2
  subst e2
  refine ⟨[.int .i64 x.1,.int .i64 x.2.1,.string x.2.2],rfl,k35_mk w (actOf x),fun i u hu=>?_⟩
  match i,hu with
  | 0,hu=>injection hu with hu;rw [← hu];exact h0
  | 1,hu=>injection hu with hu;rw [← hu];show w.cell? (ad.add (j * 3 + 1)) = _;rw [add_field _ _ 1 (by omega)];exact h1
  | 2,hu=>injection hu with hu;rw [← hu];show w.cell? (ad.add (j * 3 + 2)) = _;rw [add_field _ _ 2 (by omega)];exact h2
end Go.Proofs.YtjopbfidjapmbaaGreatDoor.Q
end
section
namespace Go.Proofs.YtjopbfidjapmbaaGreatDoor.Q
open Go.RowKit Go.Proofs.YtjopbfidjapmbaaGreatDoorW.PrintWords Go.Proofs.YtjopbfidjapmbaaGreatDoorW.PrintLast Go.Proofs.YtjopbfidjapmbaaGreatDoorW.PrintMore
set_option linter.unusedVariables false
set_option linter.unusedSimpArgs false
open Go.Proofs.YtjopbfidjapmbaaGreatDoorS
open Go.Lib
theorem decFrom_append : ∀ (l r : List UInt8) (acc : Nat),decFrom acc (l ++ r) = (decFrom acc l).bind (fun m=>decFrom m r)
  | [],r,acc=>rfl
  | b :: l,r,acc=>by
    simp only [List.cons_append,decFrom]
    cases digitVal b with
    | none=>rfl
    | some d=>exact decFrom_append l r _
theorem digit_val {d : Nat} (h : d < 10) : digitVal (UInt8.ofNat (48 + d)) = some d:=by
  have e : (UInt8.ofNat (48 + d)).toNat = 48 + d:=by rw [UInt8.toNat_ofNat'];omega
  unfold digitVal
  rw [e,if_pos (by omega)]
  congr 1
  omega
theorem dec_from (n : Nat) : decFrom 0 (decDigits n) = some n:=by
  induction n using Nat.strongRecOn with
  | ind n ih =>
    rw [decDigits]
    split
    · rename_i h
      simp only [decFrom,digit_val h,Nat.zero_mul,Nat.zero_add]
    · rename_i h
      rw [decFrom_append,ih (n / 10) (by omega)]
      simp only [Option.bind_some,decFrom,digit_val (Nat.mod_lt n (by omega))]
      congr 1
      omega
theorem dec_digits (n : Nat) : ∀ b ∈ decDigits n,48 ≤ b.toNat ∧ b.toNat ≤ 57:=by
  induction n using Nat.strongRecOn with
  | ind n ih =>
    rw [decDigits]
    split
    · rename_i h
      intro b hb
      rw [List.mem_singleton.1 hb,UInt8.toNat_ofNat']
      omega
    · rename_i h
      intro b hb
      rcases List.mem_append.1 hb with hb | hb
      · exact ih (n / 10) (by omega) b hb
      · rw [List.mem_singleton.1 hb,UInt8.toNat_ofNat']
        omega
theorem dec_ne (n : Nat) : decDigits n ≠ []:=by
  rw [decDigits]
  split
  · simp
  · simp
theorem dec_atoi (n : Nat) : atoi (decDigits n) = some (n : Int):=by
  obtain ⟨b,r,e⟩:=List.exists_cons_of_ne_nil (dec_ne n)
  have hb:=dec_digits n b (by rw [e];exact List.mem_cons_self)
  have hf:=dec_from n
  have hd : decNat (decDigits n) = some n:=by
    unfold decNat
    rw [e] at hf ⊢
    exact hf
  rw [e] at hd ⊢
  unfold atoi
  dsimp only
  rw [if_neg (by intro h;have:=eq_of_beq h;subst this;revert hb;decide),if_neg (by intro h;have:=eq_of_beq h;subst this;revert hb;decide),hd]
  rfl
theorem dec_len : ∀ (k n : Nat),n < 10 ^ (k + 1) → (decDigits n).length ≤ k + 1
  | 0,n,h=>by
    rw [decDigits,dif_pos (by simpa using h)]
    exact Nat.le_refl _
  | k + 1,n,h=>by
    rw [decDigits]
    split
    · simp
    · have:=dec_len k (n / 10) (by rw [Nat.pow_succ] at h;omega)
      rw [List.length_append,List.length_singleton]
      omega
theorem dec_itoa {n : Int} (h : 0 ≤ n) : itoa n = decDigits n.toNat:=by unfold itoa;rw [if_neg (by omega)]
def tyL : List UInt8:=[116,121,112,101,32]
def mvL : List UInt8:=[109,111,118,101,32]
def nmL (k : Int) : List UInt8 :=
  if k = 2 then [119,105,112,101] else if k = 4 then [115,119,97,112] else if k = 5 then [112,101,110,99,105,108] else if k = 6 then [114,101,118,101,97,108] else if k = 7 then [99,108,101,97,114] else []
def lineL (a : Act3) : List UInt8:=if a.f0 = 1 then tyL ++ a.f2.data.toList else if a.f0 = 3 then mvL ++ itoa a.f1 else nmL a.f0
def goodA (a : Act3) : Bool :=
  if a.f0 = 1 then decide (a.f1 = 0) && !a.f2.toList.isEmpty && !decide (0 ≤ index a.f2.data.toList [10]) else if a.f0 = 3 then decide (0 ≤ a.f1) && a.f2.toList.isEmpty else !(nmL a.f0).isEmpty && (decide (a.f1 = 0) && a.f2.toList.isEmpty)
def joinL (l : List Act3) : List UInt8:=l.flatMap fun a=>lineL a ++ [10]
theorem index_ten : ∀ (l r : List UInt8),(∀ b ∈ l,b ≠ 10) → index (l ++ 10 :: r) [10] = l.length
  | [],r,_=>by
    show index (10 :: r) [10] = 0
    unfold index
    rw [if_pos (by simp)]
  | b :: l,r,h=>by
    have hb:=h b List.mem_cons_self
    have ih:=index_ten l r (fun c hc=>h c (List.mem_cons_of_mem _ hc))
    show index (b :: (l ++ 10 :: r)) [10] = _
    unfold index
    rw [if_neg (by simp;exact fun e=>hb e.symm),ih,if_neg (by simp)]
    simp
theorem index_no : ∀ (l : List UInt8),index l [10] = -1 → ∀ b ∈ l,b ≠ 10
  | [],_,b,hb=>by cases hb
  | c :: l,h,b,hb=>by
    unfold index at h
    split at h
    · cases h
    · rename_i hp
      have hc : c ≠ 10:=fun e=>hp (by subst e;simp)
      split at h
      · rename_i h2
        rcases List.mem_cons.1 hb with rfl | hb
        · exact hc
        · exact index_no l (eq_of_beq h2) b hb
      · have:=index_ge l [10]
        rename_i h2
        exfalso
        have h3 : index l [10] = -2:=by omega
        omega
theorem cut_ten {l r : List UInt8} (h : ∀ b ∈ l,b ≠ 10) : cut (l ++ 10 :: r) [10] = (l,r,true):=by
  unfold cut
  rw [index_ten l r h,if_pos (by omega)]
  simp
theorem nmL_no (k : Int) : ∀ b ∈ nmL k,b ≠ 10:=by
  unfold nmL
  repeat' split
  all_goals decide
theorem line_no {a : Act3} (h : goodA a = true) : ∀ b ∈ lineL a,b ≠ 10:=by
  unfold goodA at h
  unfold lineL
  split
  · rename_i h1
    rw [if_pos h1] at h
    simp only [Bool.and_eq_true,Bool.not_eq_true',decide_eq_false_iff_not] at h
    intro b hb
    rcases List.mem_append.1 hb with hb | hb
    · exact (show ∀ b ∈ tyL,b ≠ 10 by decide) b hb
    · exact index_no _ (by have:=index_ge a.f2.data.toList [10];omega) b hb
  · rename_i h1
    rw [if_neg h1] at h
    split
    · rename_i h3
      rw [if_pos h3] at h
      simp only [Bool.and_eq_true,decide_eq_true_eq] at h
      intro b hb
      rcases List.mem_append.1 hb with hb | hb
      · exact (show ∀ b ∈ mvL,b ≠ 10 by decide) b hb
      · rw [dec_itoa h.1] at hb
        have:=dec_digits _ b hb
        intro e
        subst e
        revert this
        decide
    · exact nmL_no _
theorem line_ne {a : Act3} (h : goodA a = true) : lineL a ≠ []:=by
  unfold goodA at h
  unfold lineL
  split
  · exact fun e=>by cases e
  · rename_i h1
    rw [if_neg h1] at h
    split
    · exact fun e=>by cases e
    · rename_i h3
      rw [if_neg h3] at h
      simp only [Bool.and_eq_true,Bool.not_eq_true'] at h
      exact fun e=>by rw [e] at h;exact absurd h.1 (by decide)
end Go.Proofs.YtjopbfidjapmbaaGreatDoor.Q
end
