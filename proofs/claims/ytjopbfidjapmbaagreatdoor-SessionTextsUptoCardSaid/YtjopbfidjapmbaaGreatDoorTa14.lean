/- PART 14 OF A PROOF: Lean functions, and that the program computes them; written by hand and by a program. Not trusted: Lean checks it. -/
import Derived.Test.YtjopbfidjapmbaaGreatDoorTa2
import Derived.Test.YtjopbfidjapmbaaGreatDoorTa12
import Derived.Test.YtjopbfidjapmbaaGreatDoorTa13
set_option linter.unusedVariables false
set_option linter.unusedSimpArgs false
section
namespace Go.Proofs.YtjopbfidjapmbaaGreatDoor.Q
open Go.RowKit Go.Proofs.YtjopbfidjapmbaaGreatDoorW.PrintWords Go.Proofs.YtjopbfidjapmbaaGreatDoorW.PrintLast Go.Proofs.YtjopbfidjapmbaaGreatDoorW.PrintMore
set_option linter.unusedVariables false
set_option linter.unusedSimpArgs false
open Go.Proofs.YtjopbfidjapmbaaGreatDoorS
abbrev Sht:=List ByteArray × List Bool × Int × Bool
abbrev Act3:=S35
def kSht : Kd Sht:=Kd.pair (Kd.slice 9 Kd.string) (Kd.pair (Kd.slice 4 Kd.bool) (Kd.pair (Kd.int .i64) Kd.bool))
abbrev kAct : Kd Act3:=k35
theorem kSht_made {w : World} {base : Nat} {ok : Nat → Prop} {x : Sht} {v0 v1 : Value} (h0 : Kd.R Kd.string 9 w base ok v0 x.1) (h1 : Kd.R Kd.bool 4 w base ok v1 x.2.1) : kSht.M w base ok x [v0,v1,.int .i64 x.2.2.1,.bool x.2.2.2] :=
  ⟨[v0],_,rfl,⟨v0,rfl,h0⟩,[v1],_,rfl,⟨v1,rfl,h1⟩,[_],[_],rfl,rfl,rfl⟩
theorem kSht_K {w : World} {x : Sht} {cs : List Value} (h : kSht.K w x cs) : ∃ A7 c7 A8 c8,cs = [.slice A7 x.1.length c7,.slice A8 x.2.1.length c8,.int .i64 x.2.2.1,.bool x.2.2.2] ∧ ShtR A7 c7 x.1 A8 c8 x.2.1 w:=by
  obtain ⟨c0,c1,rfl,⟨A7,c7,rfl,l7,h0⟩,c2,c3,rfl,⟨A8,c8,rfl,l8,h1⟩,c4,c5,rfl,h2,h3⟩:=h
  obtain rfl:=h2
  obtain rfl:=h3
  exact ⟨A7,c7,A8,c8,rfl,h0,l7,h1,l8⟩
def rdSht (xs : List Sht) (i : Int) : Sht:=xs.getD i.toNat ([],[],0,false)
abbrev rdAct:=rd_T35
theorem at_sht {w : World} {A : Option Addr} {n : Nat} {xs : List Sht} (h : Kd.C kSht w A n xs) (i : Int) (h0 : 0 ≤ i) (h1 : i < n) :
    ∃ ad A7 c7 A8 c8,A = some ad ∧ w.cell? (ad.add (i.toNat * 4)) = some (.slice A7 (rdSht xs i).1.length c7) ∧ w.cell? ⟨(ad.add (i.toNat * 4)).block,(ad.add (i.toNat * 4)).off + 1,none⟩ = some (.slice A8 (rdSht xs i).2.1.length c8) ∧ w.cell? ⟨(ad.add (i.toNat * 4)).block,(ad.add (i.toNat * 4)).off + 2,none⟩ = some (.int .i64 (rdSht xs i).2.2.1) ∧ w.cell? ⟨(ad.add (i.toNat * 4)).block,(ad.add (i.toNat * 4)).off + 3,none⟩ = some (.bool (rdSht xs i).2.2.2) ∧ ShtR A7 c7 (rdSht xs i).1 A8 c8 (rdSht xs i).2.1 w:=by
  obtain ⟨ad,c,e,_,hK,hc0⟩:=Kd.C_get h ([],[],0,false) i h0 h1
  have hc : ∀ j u,c[j]? = some u → w.cell? (ad.add (i.toNat * 4 + j)) = some u:=hc0
  obtain ⟨A7,c7,A8,c8,rfl,hS⟩:=kSht_K hK
  exact ⟨ad,A7,c7,A8,c8,e,hc 0 _ rfl,by rw [← add_field _ _ 1 (by omega)];exact hc 1 _ rfl,by rw [← add_field _ _ 2 (by omega)];exact hc 2 _ rfl,by rw [← add_field _ _ 3 (by omega)];exact hc 3 _ rfl,hS⟩
structure Puz where
  t : ByteArray
  H : Int
  W : Int
  bl : List Bool
  ri : List Bool
  be : List Bool
  cells : List ByteArray
  clues : List ByteArray
structure SS where
  sh : List Sht
  log : List Act3
  on : List Act3
def topOf (l : List Sht) : Sht:=rdSht l ((l.length : Int) - 1)
def lastOf (l : List Act3) : Act3:=rdAct l ((l.length : Int) - 1)
def doP (P : Puz) (s : Sht) (a : Act3) : Sht × Int :=
  (((doOf P.t P.H P.W P.bl P.ri P.be P.cells P.clues s.1 s.2.1 s.2.2.1 s.2.2.2 a.f0 a.f1 a.f2).1,(doOf P.t P.H P.W P.bl P.ri P.be P.cells P.clues s.1 s.2.1 s.2.2.1 s.2.2.2 a.f0 a.f1 a.f2).2.1,(doOf P.t P.H P.W P.bl P.ri P.be P.cells P.clues s.1 s.2.1 s.2.2.1 s.2.2.2 a.f0 a.f1 a.f2).2.2.1,(doOf P.t P.H P.W P.bl P.ri P.be P.cells P.clues s.1 s.2.1 s.2.2.1 s.2.2.2 a.f0 a.f1 a.f2).2.2.2.1),(doOf P.t P.H P.W P.bl P.ri P.be P.cells P.clues s.1 s.2.1 s.2.2.1 s.2.2.2 a.f0 a.f1 a.f2).2.2.2.2)
def sAct (P : Puz) (S : SS) (a : Act3) : SS × Int:=if (doP P (topOf S.sh) a).2 = 0 then (⟨S.sh ++ [(doP P (topOf S.sh) a).1],S.log ++ [a],S.on⟩,0) else (S,(doP P (topOf S.sh) a).2)
def sDo (P : Puz) (S : SS) (a : Act3) : SS × Int:=if 2000 ≤ S.log.length then (S,32) else if (sAct P S a).2 = 0 then (⟨(sAct P S a).1.sh,(sAct P S a).1.log,[]⟩,0) else sAct P S a
def sUndo (S : SS) : SS × Int:=if S.log.length = 0 then (S,240) else (⟨S.sh.take (S.sh.length - 1),S.log.take (S.log.length - 1),S.on ++ [lastOf S.log]⟩,0)
def sRedo (P : Puz) (S : SS) : SS × Int:=if S.on.length = 0 then (S,241) else sAct P ⟨S.sh,S.log,S.on.take (S.on.length - 1)⟩ (lastOf S.on)
structure SesV (own : Nat → Prop) (w : World) (base g : Nat) (P : Puz) (v2 v3 v4 v5 v6 vs vl vo : Value) (sh : List Sht) (log on : List Act3) : Prop where
  blk : w.heap[g]? = some (.cells #[.string P.t,.int .i64 P.H,.int .i64 P.W,v2,v3,v4,v5,v6,vs,vl,vo] 85 (0,0))
  ge : base ≤ g
  og : own g
  r2 : Kd.R Kd.bool 4 w base own v2 P.bl
  r3 : Kd.R Kd.bool 4 w base own v3 P.ri
  r4 : Kd.R Kd.bool 4 w base own v4 P.be
  r5 : Kd.R Kd.string 9 w base own v5 P.cells
  r6 : Kd.R Kd.string 9 w base own v6 P.clues
  rs : Kd.R kSht 57 w base own vs sh
  rl : Kd.R kAct 35 w base (fun k=>own k ∧ some k ≠ vo.ownBlock) vl log
  ro : Kd.R kAct 35 w base (fun k=>own k ∧ some k ≠ vl.ownBlock) vo on
def Ses (own : Nat → Prop) (w : World) (base g : Nat) (P : Puz) (S : SS) : Prop:=∃ v2 v3 v4 v5 v6 vs vl vo,SesV own w base g P v2 v3 v4 v5 v6 vs vl vo S.sh S.log S.on
section
variable {own own' S : Nat → Prop} {w w' : World} {base g : Nat} {P : Puz} {v2 v3 v4 v5 v6 vs vl vo : Value} {sh : List Sht} {log on : List Act3}
theorem SesV.kept (h : SesV own w base g P v2 v3 v4 v5 v6 vs vl vo sh log on) (hk : Kept w w' S) (hn : ∀ k,own k → ¬ S k) : SesV own w' base g P v2 v3 v4 v5 v6 vs vl vo sh log on :=
  ⟨blk_kept h.blk hk (hn g h.og),h.ge,h.og,Kd.R_kept h.r2 hk hn,Kd.R_kept h.r3 hk hn,Kd.R_kept h.r4 hk hn,Kd.R_kept h.r5 hk hn,Kd.R_kept h.r6 hk hn,Kd.R_kept h.rs hk hn,Kd.R_kept h.rl hk (fun k hk=>hn k hk.1),Kd.R_kept h.ro hk (fun k hk=>hn k hk.1)⟩
theorem SesV.below (h : SesV own w base g P v2 v3 v4 v5 v6 vs vl vo sh log on) (hb : Below w.heap.size w w') : SesV own w' base g P v2 v3 v4 v5 v6 vs vl vo sh log on:=h.kept (Kept.of_below hb (fun _=>False)) (fun _ _ h=>h)
theorem SesV.mono (h : SesV own w base g P v2 v3 v4 v5 v6 vs vl vo sh log on) (hn : ∀ k,own k → own' k) : SesV own' w base g P v2 v3 v4 v5 v6 vs vl vo sh log on :=
  ⟨h.blk,h.ge,hn g h.og,Kd.R_mono h.r2 hn,Kd.R_mono h.r3 hn,Kd.R_mono h.r4 hn,Kd.R_mono h.r5 hn,Kd.R_mono h.r6 hn,Kd.R_mono h.rs hn,Kd.R_mono h.rl (fun k hk=>⟨hn k hk.1,hk.2⟩),Kd.R_mono h.ro (fun k hk=>⟨hn k hk.1,hk.2⟩)⟩
theorem SesV.trim (h : SesV own w base g P v2 v3 v4 v5 v6 vs vl vo sh log on) : SesV (fun k=>own k ∧ k < w.heap.size) w base g P v2 v3 v4 v5 v6 vs vl vo sh log on :=
  ⟨h.blk,h.ge,⟨h.og,blk_lt h.blk⟩,Kd.R_mono (Kd.R_bound h.r2) (fun k hk=>⟨hk.1,hk.2.2.1⟩),Kd.R_mono (Kd.R_bound h.r3) (fun k hk=>⟨hk.1,hk.2.2.1⟩),Kd.R_mono (Kd.R_bound h.r4) (fun k hk=>⟨hk.1,hk.2.2.1⟩),Kd.R_mono (Kd.R_bound h.r5) (fun k hk=>⟨hk.1,hk.2.2.1⟩),Kd.R_mono (Kd.R_bound h.r6) (fun k hk=>⟨hk.1,hk.2.2.1⟩),Kd.R_mono (Kd.R_bound h.rs) (fun k hk=>⟨hk.1,hk.2.2.1⟩),Kd.R_mono (Kd.R_bound h.rl) (fun k hk=>⟨⟨hk.1.1,hk.2.2.1⟩,hk.1.2⟩),Kd.R_mono (Kd.R_bound h.ro) (fun k hk=>⟨⟨hk.1.1,hk.2.2.1⟩,hk.1.2⟩)⟩
theorem SesV.puz (h : SesV own w base g P v2 v3 v4 v5 v6 vs vl vo sh log on) : ∃ A2 c2 A3 c3 A4 c4 A5 c5 A6 c6,v2 = .slice A2 P.bl.length c2 ∧ v3 = .slice A3 P.ri.length c3 ∧ v4 = .slice A4 P.be.length c4 ∧ v5 = .slice A5 P.cells.length c5 ∧ v6 = .slice A6 P.clues.length c6 ∧ PuzR A2 c2 P.bl A3 c3 P.ri A4 c4 P.be A5 c5 P.cells A6 c6 P.clues w:=by
  obtain ⟨A2,c2,rfl,k2,q2⟩:=Kd.R_reads h.r2
  obtain ⟨A3,c3,rfl,k3,q3⟩:=Kd.R_reads h.r3
  obtain ⟨A4,c4,rfl,k4,q4⟩:=Kd.R_reads h.r4
  obtain ⟨A5,c5,rfl,k5,q5⟩:=Kd.R_reads h.r5
  obtain ⟨A6,c6,rfl,k6,q6⟩:=Kd.R_reads h.r6
  exact ⟨A2,c2,A3,c3,A4,c4,A5,c5,A6,c6,rfl,rfl,rfl,rfl,rfl,q2,k2,q3,k3,q4,k4,q5,k5,q6,k6⟩
end
end Go.Proofs.YtjopbfidjapmbaaGreatDoor.Q
end
section
namespace Go.Proofs.YtjopbfidjapmbaaGreatDoor.Q
open Go.RowKit Go.Proofs.YtjopbfidjapmbaaGreatDoorW.PrintWords Go.Proofs.YtjopbfidjapmbaaGreatDoorW.PrintLast Go.Proofs.YtjopbfidjapmbaaGreatDoorW.PrintMore
set_option linter.unusedVariables false
set_option linter.unusedSimpArgs false
open Go.Proofs.YtjopbfidjapmbaaGreatDoorS
def put3 (w : World) (g : Nat) (v0 v1 v2 : Value) : World:=((w.setCell ⟨g,0,none⟩ v0).setCell ⟨g,1,none⟩ v1).setCell ⟨g,2,none⟩ v2
theorem put3_facts {w : World} {g t : Nat} {c0 c1 c2 : Value} (h : w.heap[g]? = some (.cells #[c0,c1,c2] t (0,0))) (v0 v1 v2 : Value) :
    (put3 w g v0 v1 v2).heap[g]? = some (.cells #[v0,v1,v2] t (0,0)) ∧ (∀ k,k ≠ g → (put3 w g v0 v1 v2).heap[k]? = w.heap[k]?) ∧ ∀ B w0,Below B w0 w → B ≤ g → Below B w0 (put3 w g v0 v1 v2):=by
  refine ⟨?_,fun k hk=>?_,fun B w0 hb hg=>?_⟩
  · have h1:=blk_put (cs':=#[v0,c1,c2]) h 0 v0 rfl
    have h2:=blk_put (cs':=#[v0,v1,c2]) h1 1 v1 rfl
    exact blk_put (cs':=#[v0,v1,v2]) h2 2 v2 rfl
  · unfold put3
    rw [Below.heap_setCell _ _ _ k hk,Below.heap_setCell _ _ _ k hk,Below.heap_setCell _ _ _ k hk]
  · exact ((hb.setCell hg _).setCell hg _).setCell hg _
theorem frozen3 {w : World} {b t : Nat} {cs : Array Value} (h : w.heap[b]? = some (.cells cs t (0,0))) : w.frozen? ⟨b,0,none⟩ = false ∧ w.frozen? ⟨b,1,none⟩ = false ∧ w.frozen? ⟨b,2,none⟩ = false :=
  ⟨blk_frozen h 0,blk_frozen h 1,blk_frozen h 2⟩
set_option maxHeartbeats 8000000 in
set_option maxRecDepth 1000000 in
theorem topS_calls {w : World} {g j c : Nat} {A : Option Addr} {sh : List Sht} (hv : w.cell? ⟨g,j,none⟩ = some (.slice A sh.length c)) (hr : Kd.C kSht w A sh.length sh) (h1 : 0 < sh.length) (hl : sh.length ≤ 1048576) :
    Calls Tryz.prog 37 #[.pointer (some ⟨g,j,none⟩)] w fun e w'=>∃ A7 c7 A8 c8,e = .returned (.agg #[.slice A7 (topOf sh).1.length c7,.slice A8 (topOf sh).2.1.length c8,.int .i64 (topOf sh).2.2.1,.bool (topOf sh).2.2.2]) ∧ ShtR A7 c7 (topOf sh).1 A8 c8 (topOf sh).2.1 w' ∧ Below w.heap.size w w':=by
  obtain ⟨q,hq⟩ : ∃ q,(sh.length : Int) - 1 = q:=⟨_,rfl⟩
  have hq0 : 0 ≤ q:=by omega
  have hq1 : q < (sh.length : Int):=by omega
  have hw : wrap64 ((sh.length : Int) - 1) = q:=by rw [hq];exact w64 (by omega) (by omega)
  have d0 : decide (0 ≤ q) = true:=decide_eq_true hq0
  have d1 : decide (q < (sh.length : Int)) = true:=decide_eq_true hq1
  obtain ⟨ad,A7,c7,A8,c8,eA,z0,z1,z2,z3,hS⟩:=at_sht hr q hq0 hq1
  cases eA
  obtain ⟨x,hx⟩ : ∃ x,rdSht sh q = x:=⟨_,rfl⟩
  have ht : topOf sh = x:=by unfold topOf;rw [hq];exact hx
  rw [ht]
  rw [hx] at z0 z1 z2 z3 hS
  clear ht hx
  replace hq:=Lib.hid hq
  have hu:=Tryz.underlying57
  have B0:=blk_drew (blk_new w (.cells #[.slice none 0 0,.slice none 0 0,.int .i64 0,.bool false] 57))
  have HB:=below_drew (below_alloc (Below.refl w.heap.size w) (.cells #[.slice none 0 0,.slice none 0 0,.int .i64 0,.bool false] 57))
  go_enter Tryz.func37,Tryz.ntmps37
  go_wp2
  refine start_ (n:=13) (S:=fun w'=>w'.cell? ⟨g,j,none⟩ = some (.slice (some ad) sh.length c) ∧ w'.cell? (ad.add (q.toNat * 4)) = some (.slice A7 x.1.length c7) ∧ w'.cell? ⟨(ad.add (q.toNat * 4)).block,(ad.add (q.toNat * 4)).off + 1,none⟩ = some (.slice A8 x.2.1.length c8) ∧ w'.cell? ⟨(ad.add (q.toNat * 4)).block,(ad.add (q.toNat * 4)).off + 2,none⟩ = some (.int .i64 x.2.2.1) ∧ w'.cell? ⟨(ad.add (q.toNat * 4)).block,(ad.add (q.toNat * 4)).off + 3,none⟩ = some (.bool x.2.2.2)) (ds:=[12]) #[false,false,false,false,false,false,false,false,false,false,false,false,false] (by kernel_rfl) rfl rfl (⟨pw_cell_below HB hv,pw_cell_below HB z0,pw_cell_below HB z1,pw_cell_below HB z2,pw_cell_below HB z3⟩) (fun hHeld=>?_)
  generalize (w.alloc (.cells #[.slice none 0 0,.slice none 0 0,.int .i64 0,.bool false] 57)).drew = w1 at B0 HB hHeld ⊢
  refine pure_ (i:=0) (N:=some 3) (v:=?_) (a':=?_) #[true,false,false,false,false,false,false,false,false,false,false,false,false] rfl rfl (by kernel_rfl) (fun _ _ _ h=>h) (Or.inl ⟨by rfl,?_⟩) ?_ ?_
  rotate_left
  · intro w';go_simp;with_reducible rfl
  rotate_left
  · simp only [Act.put,List.setIfInBounds_toArray,List.set_cons_zero,List.set_cons_succ,i64_w,i32_w];rfl
  refine pure_ (i:=1) (N:=some 4) (v:=?_) (a':=?_) #[true,true,false,false,false,false,false,false,false,false,false,false,false] rfl rfl (by kernel_rfl) (fun _ _ _ h=>h) (Or.inl ⟨by rfl,?_⟩) ?_ ?_
  rotate_left
  · intro w';go_simp;with_reducible rfl
  rotate_left
  · simp only [Act.put,List.setIfInBounds_toArray,List.set_cons_zero,List.set_cons_succ,i64_w,i32_w];rfl
  refine pure_ (i:=2) (N:=some 5) (v:=?_) (a':=?_) #[true,true,true,false,false,false,false,false,false,false,false,false,false] rfl rfl (by kernel_rfl) (fun _ _ _ h=>h) (Or.inl ⟨by rfl,?_⟩) ?_ ?_
  rotate_left
  · intro w';go_simp;with_reducible rfl
  rotate_left
  · simp only [Act.put,List.setIfInBounds_toArray,List.set_cons_zero,List.set_cons_succ,i64_w,i32_w];rfl
  refine pure_ (i:=4) (N:=some 7) (v:=?_) (a':=?_) #[true,true,true,false,true,false,false,false,false,false,false,false,false] rfl rfl (by kernel_rfl) (fun _ _ _ h=>h) (Or.inl ⟨by rfl,?_⟩) ?_ ?_
  rotate_left
  · intro w';go_simp;with_reducible rfl
  rotate_left
  · simp only [Act.put,List.setIfInBounds_toArray,List.set_cons_zero,List.set_cons_succ,i64_w,i32_w];rfl
  refine pure_ (i:=5) (N:=some 8) (v:=?_) (a':=?_) #[true,true,true,false,true,true,false,false,false,false,false,false,false] rfl rfl (by kernel_rfl) (fun _ _ _ h=>h) (Or.inl ⟨by rfl,?_⟩) ?_ ?_
  rotate_left
  · intro w';go_simp;with_reducible rfl
  rotate_left
  · simp only [Act.put,List.setIfInBounds_toArray,List.set_cons_zero,List.set_cons_succ,i64_w,i32_w];rfl
  refine pure_ (i:=6) (N:=some 9) (v:=?_) (a':=?_) #[true,true,true,false,true,true,true,false,false,false,false,false,false] rfl rfl (by kernel_rfl) (fun _ _ _ h=>h) (Or.inl ⟨by rfl,?_⟩) ?_ ?_
  rotate_left
  · intro w';go_simp;with_reducible rfl
  rotate_left
  · simp only [Act.put,List.setIfInBounds_toArray,List.set_cons_zero,List.set_cons_succ,i64_w,i32_w];rfl
  refine take_ (i:=3) (N:=some 6) (v:=?_) (a':=?_) #[true,true,true,true,true,true,true,false,false,false,false,false,false] rfl rfl (by kernel_rfl) (fun _ _ _ h=>h) (Or.inl ⟨by rfl,?_⟩) hHeld ?_ ?_
  rotate_left
  · rintro w' ⟨s,s0,s1,s2,s3⟩;go_simp;with_reducible rfl
  rotate_left
  · simp only [Act.put,List.setIfInBounds_toArray,List.set_cons_zero,List.set_cons_succ,i64_w,i32_w];rfl
  refine take_ (i:=7) (N:=some 10) (v:=?_) (a':=?_) #[true,true,true,true,true,true,true,true,false,false,false,false,false] rfl rfl (by kernel_rfl) (fun _ _ _ h=>h) (Or.inl ⟨by rfl,?_⟩) hHeld ?_ ?_
  rotate_left
  · rintro w' ⟨s,s0,s1,s2,s3⟩;go_simp;with_reducible rfl
  rotate_left
  · simp only [Act.put,List.setIfInBounds_toArray,List.set_cons_zero,List.set_cons_succ,i64_w,i32_w];rfl
  refine pure_ (i:=8) (N:=some 11) (v:=?_) (a':=?_) #[true,true,true,true,true,true,true,true,true,false,false,false,false] rfl rfl (by kernel_rfl) (fun _ _ _ h=>h) (Or.inl ⟨by rfl,?_⟩) ?_ ?_
  rotate_left
  · intro w';go_simp;with_reducible rfl
  rotate_left
  · simp only [Act.put,List.setIfInBounds_toArray,List.set_cons_zero,List.set_cons_succ,i64_w,i32_w];rfl
  refine pure_ (i:=9) (N:=some 12) (v:=?_) (a':=?_) #[true,true,true,true,true,true,true,true,true,true,false,false,false] rfl rfl (by kernel_rfl) (fun _ _ _ h=>h) (Or.inl ⟨by rfl,?_⟩) ?_ ?_
  rotate_left
  · intro w';go_simp;with_reducible rfl
  rotate_left
  · simp only [Act.put,List.setIfInBounds_toArray,List.set_cons_zero,List.set_cons_succ,i64_w,i32_w];rfl
  rw [hw]
  refine pure_ (i:=10) (N:=some 13) (v:=?_) (a':=?_) #[true,true,true,true,true,true,true,true,true,true,true,false,false] rfl rfl (by kernel_rfl) (fun _ _ _ h=>h) (Or.inl ⟨by rfl,?_⟩) ?_ ?_
  rotate_left
  · intro w';go_simp;with_reducible rfl
  rotate_left
  · simp only [Act.put,List.setIfInBounds_toArray,List.set_cons_zero,List.set_cons_succ,i64_w,i32_w];rfl
  refine take_ (i:=11) (N:=some 14) (v:=?_) (a':=?_) #[true,true,true,true,true,true,true,true,true,true,true,true,false] rfl rfl (by kernel_rfl) (fun _ _ _ h=>h) (Or.inl ⟨by rfl,?_⟩) hHeld ?_ ?_
  rotate_left
  · rintro w' ⟨s,s0,s1,s2,s3⟩;go_simp;with_reducible rfl
  rotate_left
  · simp only [Act.put,List.setIfInBounds_toArray,List.set_cons_zero,List.set_cons_succ,i64_w,i32_w];rfl
  refine last_ (i:=12) (N:=none) #[true,true,true,true,true,true,true,true,true,true,true,true,true] rfl rfl (by kernel_rfl) (by decide) (fun K hK=>?_)
  have F:=frozen4 B0
  have C:=cells4 B0
  have P:=put4_facts B0 (.slice A7 x.1.length c7) (.slice A8 x.2.1.length c8) (.int .i64 x.2.2.1) (.bool x.2.2.2)
  refine skip_ (w1:=put4 w1 w.heap.size (.slice A7 x.1.length c7) (.slice A8 x.2.1.length c8) (.int .i64 x.2.2.1) (.bool x.2.2.2)) (by rfl) rfl (by first | (go_simp;done) | (go_simp;rfl)) ?_
  generalize put4 w1 w.heap.size (.slice A7 x.1.length c7) (.slice A8 x.2.1.length c8) (.int .i64 x.2.2.1) (.bool x.2.2.2) = w2 at P ⊢
  refine hK.out _ _ ?_
  clear hK K
  refine done_ (by kernel_rfl) ?_
  try go_wp2
  refine bodyPost_ret (results_cell_row rfl _ _ w.heap.size 57 #[.slice A7 x.1.length c7,.slice A8 x.2.1.length c8,.int .i64 x.2.2.1,.bool x.2.2.2] (0,0) _ rfl P.1 Tryz.underlying57 rfl (by kernel_rfl)) rfl ?_
  have HB2:=P.2.2 _ _ HB (Nat.le_refl _)
  exact ⟨_,_,_,_,rfl,hS.below HB2,HB2⟩
set_option maxHeartbeats 8000000 in
set_option maxRecDepth 1000000 in
theorem pushA_calls {own : Nat → Prop} {w : World} {base g j : Nat} {cs : Array Value} {v : Value} {ys : List Act3} {x : Act3} (hb : w.heap[g]? = some (.cells cs 85 (0,0))) (hj : cs[j]? = some v) (hg : base ≤ g) (hR : Kd.R kAct 35 w base own v ys) (hf : ∀ k,w.heap.size ≤ k → own k) (hl : ys.length ≤ 1048576) :
    Calls Tryz.prog 32 #[.pointer (some ⟨g,j,none⟩),.agg #[.int .i64 x.f0,.int .i64 x.f1,.string x.f2]] w fun e w'=>e = .returned (.tuple #[]) ∧ ∃ v',w'.heap[g]? = some (.cells (cs.setIfInBounds j v') 85 (0,0)) ∧ Kd.R kAct 35 w' base own v' (ys ++ [x]) ∧ Kept w w' (fun k=>k = g ∨ some k = v.ownBlock) ∧ Below base w w' ∧ (v'.ownBlock = v.ownBlock ∨ ∃ b,v'.ownBlock = some b ∧ w.heap.size ≤ b):=by
  have hbs : base ≤ w.heap.size:=Nat.le_trans hg (Nat.le_of_lt (blk_lt hb))
  obtain ⟨A,c,rfl⟩:=Kd.R_slice hR
  have hu:=Tryz.underlying35
  go_enter Tryz.func32,Tryz.ntmps32
  go_wp2
  have X1:=blk_new w (.cells #[.int .i64 x.f0,.int .i64 x.f1,.string x.f2] 35)
  have HB1:=below_drew (below_alloc (Below.refl w.heap.size w) (.cells #[.int .i64 x.f0,.int .i64 x.f1,.string x.f2] 35))
  have G1:=blk_below hb HB1
  have HR1:=Kd.R_below hR HB1
  have KP1:=Kept.of_below HB1 (fun k=>k = g ∨ some k = (Value.slice A ys.length c).ownBlock)
  refine start_ (n:=11) (S:=fun w'=>w'.cell? ⟨g,j,none⟩ = some (.slice A ys.length c)) (ds:=[10]) #[false,false,false,false,false,false,false,false,false,false,false] (by kernel_rfl) rfl rfl ((blk_cell G1 j).trans hj) (fun hHeld=>?_)
  replace X1:=blk_drew X1
  generalize (w.alloc (.cells #[.int .i64 x.f0,.int .i64 x.f1,.string x.f2] 35)).drew = w1 at X1 HB1 G1 HR1 KP1 hHeld ⊢
  refine pure_ (i:=0) (N:=some 4) (v:=?_) (a':=?_) #[true,false,false,false,false,false,false,false,false,false,false] rfl rfl (by kernel_rfl) (fun _ _ _ h=>h) (Or.inl ⟨by rfl,?_⟩) ?_ ?_
  rotate_left
  · intro w';go_simp;with_reducible rfl
  rotate_left
  · simp only [Act.put,List.setIfInBounds_toArray,List.set_cons_zero,List.set_cons_succ,i64_w,i32_w];rfl
  refine pure_ (i:=1) (N:=some 5) (v:=?_) (a':=?_) #[true,true,false,false,false,false,false,false,false,false,false] rfl rfl (by kernel_rfl) (fun _ _ _ h=>h) (Or.inl ⟨by rfl,?_⟩) ?_ ?_
  rotate_left
  · intro w';go_simp;with_reducible rfl
  rotate_left
  · simp only [Act.put,List.setIfInBounds_toArray,List.set_cons_zero,List.set_cons_succ,i64_w,i32_w];rfl
  refine pure_ (i:=2) (N:=some 6) (v:=?_) (a':=?_) #[true,true,true,false,false,false,false,false,false,false,false] rfl rfl (by kernel_rfl) (fun _ _ _ h=>h) (Or.inl ⟨by rfl,?_⟩) ?_ ?_
  rotate_left
  · intro w';go_simp;with_reducible rfl
  rotate_left
  · simp only [Act.put,List.setIfInBounds_toArray,List.set_cons_zero,List.set_cons_succ,i64_w,i32_w];rfl
  refine pure_ (i:=3) (N:=some 7) (v:=?_) (a':=?_) #[true,true,true,true,false,false,false,false,false,false,false] rfl rfl (by kernel_rfl) (fun _ _ _ h=>h) (Or.inl ⟨by rfl,?_⟩) ?_ ?_
  rotate_left
  · intro w';go_simp;with_reducible rfl
  rotate_left
  · simp only [Act.put,List.setIfInBounds_toArray,List.set_cons_zero,List.set_cons_succ,i64_w,i32_w];rfl
  refine take_ (i:=4) (N:=some 8) (v:=?_) (a':=?_) #[true,true,true,true,true,false,false,false,false,false,false] rfl rfl (by kernel_rfl) (fun _ _ _ h=>h) (Or.inl ⟨by rfl,?_⟩) hHeld ?_ ?_
  rotate_left
  · rintro w' s0;go_simp;with_reducible rfl
  rotate_left
  · simp only [Act.put,List.setIfInBounds_toArray,List.set_cons_zero,List.set_cons_succ,i64_w,i32_w];rfl
  refine one_ (i:=5) (N:=some 9) #[true,true,true,true,true,true,false,false,false,false,false] rfl rfl (by kernel_rfl) (by decide) (fun K hK=>?_)
  have xc:=cells3 X1
  refine value_ (w1:=w1) (v:=.agg #[.int .i64 x.f0,.int .i64 x.f1,.string x.f2]) (by rfl) rfl (by first | (go_simp;done) | (go_simp;rfl)) ?_
  refine hK.out _ _ (hHeld) (fun hHeld=>?_)
  clear hK K
  refine norm_ (a':=?_) ?_ ?_
  rotate_left
  · show Act.put _ (some 9) _ = _
    simp only [Act.put,List.setIfInBounds_toArray,List.set_cons_zero,List.set_cons_succ,i64_w,i32_w];rfl
  refine one_ (i:=6) (N:=some 10) #[true,true,true,true,true,true,true,false,false,false,false] rfl rfl (by kernel_rfl) (by decide) (fun K hK=>?_)
  refine value_ (w1:=w1.alloc (.cells #[.int .i64 x.f0,.int .i64 x.f1,.string x.f2] 35)) (v:=.slice (some ⟨w1.heap.size,0,none⟩) 1 1) (by rfl) rfl (by first | (go_simp;done) | (go_simp;rfl)) ?_
  refine hK.out _ _ ((blk_cell (blk_alloc G1 _) j).trans hj) (fun hHeld=>?_)
  clear hK K
  refine norm_ (a':=?_) ?_ ?_
  rotate_left
  · show Act.put _ (some 10) _ = _
    simp only [Act.put,List.setIfInBounds_toArray,List.set_cons_zero,List.set_cons_succ,i64_w,i32_w];rfl
  refine one_ (i:=7) (N:=some 11) #[true,true,true,true,true,true,true,true,false,false,false] rfl rfl (by kernel_rfl) (by decide) (fun K hK=>?_)
  refine Kd.R_append_step kAct (w0:=w) base (by rfl) (.tmp 8) (.tmp 10) 22 35 (.agg #[.int .i64 0,.int .i64 0,.string ⟨#[]⟩]) 32 rfl Tryz.underlying22 (by kernel_rfl) rfl (by decide) (by decide) _ ys x _ own (fun _=>False) rfl rfl (k35_mkM w1 base (fun _=>False) x) ?hokp ?hfr HR1 ?hb0 ?hb1 (by omega) ?_
  case hokp=>exact fun _ h=>h.elim
  case hfr=>exact fun k hk=>hf k (Nat.le_trans HB1.size hk)
  case hb0=>exact (HB1.mono hbs)
  case hb1=>exact Nat.le_trans hbs HB1.size
  intro v1 w3 HR3 HB3 hg3 hat3
  obtain ⟨A3,c3,rfl⟩:=Kd.R_slice HR3
  have G3:=blk_grown G1 hg3 (Kd.R_ne HR1 G1 (by decide))
  have KP3:=Kept.of_grown hg3 KP1 (fun k hk=>.inl (.inr hk.symm))
  refine hK.out _ _ ((blk_cell G3 j).trans hj) (fun hHeld=>?_)
  clear hK K
  refine norm_ (a':=?_) ?_ ?_
  rotate_left
  · show Act.put _ (some 11) _ = _
    simp only [Act.put,List.setIfInBounds_toArray,List.set_cons_zero,List.set_cons_succ,i64_w,i32_w];rfl
  refine pure_ (i:=8) (N:=some 12) (v:=?_) (a':=?_) #[true,true,true,true,true,true,true,true,true,false,false] rfl rfl (by kernel_rfl) (fun _ _ _ h=>h) (Or.inl ⟨by rfl,?_⟩) ?_ ?_
  rotate_left
  · intro w';go_simp;with_reducible rfl
  rotate_left
  · simp only [Act.put,List.setIfInBounds_toArray,List.set_cons_zero,List.set_cons_succ,i64_w,i32_w];rfl
  refine pure_ (i:=9) (N:=some 13) (v:=?_) (a':=?_) #[true,true,true,true,true,true,true,true,true,true,false] rfl rfl (by kernel_rfl) (fun _ _ _ h=>h) (Or.inl ⟨by rfl,?_⟩) ?_ ?_
  rotate_left
  · intro w';go_simp;with_reducible rfl
  rotate_left
  · simp only [Act.put,List.setIfInBounds_toArray,List.set_cons_zero,List.set_cons_succ,i64_w,i32_w];rfl
  refine last_ (i:=10) (N:=none) #[true,true,true,true,true,true,true,true,true,true,true] rfl rfl (by kernel_rfl) (by decide) (fun K hK=>?_)
  have F:=blk_frozen G3 j
  have C3:=(blk_cell G3 j).trans hj
  have P:=one_facts (i:=j) G3 (.slice A3 (ys ++ [x]).length c3) rfl
  have R4:=Kd.R_set HR3 G3 (by decide) j (.slice A3 (ys ++ [x]).length c3)
  have KP4:=KP3.setCell (p:=⟨g,j,none⟩) (.inl (.inl rfl)) (.slice A3 (ys ++ [x]).length c3)
  refine skip_ (w1:=w3.setCell ⟨g,j,none⟩ (.slice A3 (ys ++ [x]).length c3)) (by rfl) rfl (by first | (go_simp;done) | (go_simp;rfl)) ?_
  generalize w3.setCell ⟨g,j,none⟩ (.slice A3 (ys ++ [x]).length c3) = w4 at P R4 KP4 ⊢
  refine hK.out _ _ ?_
  clear hK K
  refine done_ (by kernel_rfl) ?_
  go_end0
  refine ⟨rfl,_,P.1,R4,KP4,P.2.2 _ _ HB3 hg,?_⟩
  rcases hat3 with h | ⟨b,e,h⟩
  · exact .inl h
  · exact .inr ⟨b,e,Nat.le_trans HB1.size h⟩
set_option maxHeartbeats 8000000 in
set_option maxRecDepth 1000000 in
theorem pushS_calls {own okp : Nat → Prop} {w : World} {base g j : Nat} {cs : Array Value} {v u0 u1 : Value} {ys : List Sht} {x : Sht} (hb : w.heap[g]? = some (.cells cs 85 (0,0))) (hj : cs[j]? = some v) (hg : base ≤ g) (hR : Kd.R kSht 57 w base own v ys) (h0 : Kd.R Kd.string 9 w base okp u0 x.1) (h1 : Kd.R Kd.bool 4 w base okp u1 x.2.1) (ho : ∀ k,okp k → own k) (hf : ∀ k,w.heap.size ≤ k → own k) (hl : ys.length ≤ 1048576) :
    Calls Tryz.prog 30 #[.pointer (some ⟨g,j,none⟩),.agg #[u0,u1,.int .i64 x.2.2.1,.bool x.2.2.2]] w fun e w'=>e = .returned (.tuple #[]) ∧ ∃ v',w'.heap[g]? = some (.cells (cs.setIfInBounds j v') 85 (0,0)) ∧ Kd.R kSht 57 w' base own v' (ys ++ [x]) ∧ Kept w w' (fun k=>k = g ∨ some k = v.ownBlock) ∧ Below base w w' ∧ (v'.ownBlock = v.ownBlock ∨ ∃ b,v'.ownBlock = some b ∧ w.heap.size ≤ b):=by
  have hbs : base ≤ w.heap.size:=Nat.le_trans hg (Nat.le_of_lt (blk_lt hb))
  obtain ⟨B0,k0,rfl⟩:=Kd.R_slice h0
  obtain ⟨B1,k1,rfl⟩:=Kd.R_slice h1
  obtain ⟨A,c,rfl⟩:=Kd.R_slice hR
  have hu:=Tryz.underlying57
  go_enter Tryz.func30,Tryz.ntmps30
  go_wp2
  have X1:=blk_new w (.cells #[.slice B0 x.1.length k0,.slice B1 x.2.1.length k1,.int .i64 x.2.2.1,.bool x.2.2.2] 57)
  have HB1:=below_drew (below_alloc (Below.refl w.heap.size w) (.cells #[.slice B0 x.1.length k0,.slice B1 x.2.1.length k1,.int .i64 x.2.2.1,.bool x.2.2.2] 57))
  have G1:=blk_below hb HB1
  have HR1:=Kd.R_below hR HB1
  have KP1:=Kept.of_below HB1 (fun k=>k = g ∨ some k = (Value.slice A ys.length c).ownBlock)
  have S0:=Kd.R_below h0 HB1
  have S1:=Kd.R_below h1 HB1
  refine start_ (n:=11) (S:=fun w'=>w'.cell? ⟨g,j,none⟩ = some (.slice A ys.length c)) (ds:=[10]) #[false,false,false,false,false,false,false,false,false,false,false] (by kernel_rfl) rfl rfl ((blk_cell G1 j).trans hj) (fun hHeld=>?_)
  replace X1:=blk_drew X1
  generalize (w.alloc (.cells #[.slice B0 x.1.length k0,.slice B1 x.2.1.length k1,.int .i64 x.2.2.1,.bool x.2.2.2] 57)).drew = w1 at X1 HB1 G1 HR1 KP1 S0 S1 hHeld ⊢
  refine pure_ (i:=0) (N:=some 4) (v:=?_) (a':=?_) #[true,false,false,false,false,false,false,false,false,false,false] rfl rfl (by kernel_rfl) (fun _ _ _ h=>h) (Or.inl ⟨by rfl,?_⟩) ?_ ?_
  rotate_left
  · intro w';go_simp;with_reducible rfl
  rotate_left
  · simp only [Act.put,List.setIfInBounds_toArray,List.set_cons_zero,List.set_cons_succ,i64_w,i32_w];rfl
  refine pure_ (i:=1) (N:=some 5) (v:=?_) (a':=?_) #[true,true,false,false,false,false,false,false,false,false,false] rfl rfl (by kernel_rfl) (fun _ _ _ h=>h) (Or.inl ⟨by rfl,?_⟩) ?_ ?_
  rotate_left
  · intro w';go_simp;with_reducible rfl
  rotate_left
  · simp only [Act.put,List.setIfInBounds_toArray,List.set_cons_zero,List.set_cons_succ,i64_w,i32_w];rfl
  refine pure_ (i:=2) (N:=some 6) (v:=?_) (a':=?_) #[true,true,true,false,false,false,false,false,false,false,false] rfl rfl (by kernel_rfl) (fun _ _ _ h=>h) (Or.inl ⟨by rfl,?_⟩) ?_ ?_
  rotate_left
  · intro w';go_simp;with_reducible rfl
  rotate_left
  · simp only [Act.put,List.setIfInBounds_toArray,List.set_cons_zero,List.set_cons_succ,i64_w,i32_w];rfl
  refine pure_ (i:=3) (N:=some 7) (v:=?_) (a':=?_) #[true,true,true,true,false,false,false,false,false,false,false] rfl rfl (by kernel_rfl) (fun _ _ _ h=>h) (Or.inl ⟨by rfl,?_⟩) ?_ ?_
  rotate_left
  · intro w';go_simp;with_reducible rfl
  rotate_left
  · simp only [Act.put,List.setIfInBounds_toArray,List.set_cons_zero,List.set_cons_succ,i64_w,i32_w];rfl
  refine take_ (i:=4) (N:=some 8) (v:=?_) (a':=?_) #[true,true,true,true,true,false,false,false,false,false,false] rfl rfl (by kernel_rfl) (fun _ _ _ h=>h) (Or.inl ⟨by rfl,?_⟩) hHeld ?_ ?_
  rotate_left
  · rintro w' s0;go_simp;with_reducible rfl
  rotate_left
  · simp only [Act.put,List.setIfInBounds_toArray,List.set_cons_zero,List.set_cons_succ,i64_w,i32_w];rfl
  refine one_ (i:=5) (N:=some 9) #[true,true,true,true,true,true,false,false,false,false,false] rfl rfl (by kernel_rfl) (by decide) (fun K hK=>?_)
  have xc:=cells4 X1
  refine value_ (w1:=w1) (v:=.agg #[.slice B0 x.1.length k0,.slice B1 x.2.1.length k1,.int .i64 x.2.2.1,.bool x.2.2.2]) (by rfl) rfl (by first | (go_simp;done) | (go_simp;rfl)) ?_
  refine hK.out _ _ (hHeld) (fun hHeld=>?_)
  clear hK K
  refine norm_ (a':=?_) ?_ ?_
  rotate_left
  · show Act.put _ (some 9) _ = _
    simp only [Act.put,List.setIfInBounds_toArray,List.set_cons_zero,List.set_cons_succ,i64_w,i32_w];rfl
  refine one_ (i:=6) (N:=some 10) #[true,true,true,true,true,true,true,false,false,false,false] rfl rfl (by kernel_rfl) (by decide) (fun K hK=>?_)
  refine value_ (w1:=w1.alloc (.cells #[.slice B0 x.1.length k0,.slice B1 x.2.1.length k1,.int .i64 x.2.2.1,.bool x.2.2.2] 57)) (v:=.slice (some ⟨w1.heap.size,0,none⟩) 1 1) (by rfl) rfl (by first | (go_simp;done) | (go_simp;rfl)) ?_
  refine hK.out _ _ ((blk_cell (blk_alloc G1 _) j).trans hj) (fun hHeld=>?_)
  clear hK K
  refine norm_ (a':=?_) ?_ ?_
  rotate_left
  · show Act.put _ (some 10) _ = _
    simp only [Act.put,List.setIfInBounds_toArray,List.set_cons_zero,List.set_cons_succ,i64_w,i32_w];rfl
  refine one_ (i:=7) (N:=some 11) #[true,true,true,true,true,true,true,true,false,false,false] rfl rfl (by kernel_rfl) (by decide) (fun K hK=>?_)
  have T0:=Kd.R_apartR S0 HR1 (by decide)
  have T1:=Kd.R_apartR S1 HR1 (by decide)
  refine Kd.R_append_step kSht (w0:=w) base (by rfl) (.tmp 8) (.tmp 10) 79 57 (.agg #[.slice none 0 0,.slice none 0 0,.int .i64 0,.bool false]) 64 rfl Tryz.underlying79 (by kernel_rfl) rfl (by decide) (by decide) _ ys x _ own (fun k=>okp k ∧ some k ≠ (Value.slice A ys.length c).ownBlock) rfl rfl (kSht_made T0 T1) ?hokp ?hfr HR1 ?hb0 ?hb1 (by omega) ?_
  case hokp=>exact fun k hk=>⟨ho k hk.1,hk.2⟩
  case hfr=>exact fun k hk=>hf k (Nat.le_trans HB1.size hk)
  case hb0=>exact (HB1.mono hbs)
  case hb1=>exact Nat.le_trans hbs HB1.size
  intro v1 w3 HR3 HB3 hg3 hat3
  obtain ⟨A3,c3,rfl⟩:=Kd.R_slice HR3
  have G3:=blk_grown G1 hg3 (Kd.R_ne HR1 G1 (by decide))
  have KP3:=Kept.of_grown hg3 KP1 (fun k hk=>.inl (.inr hk.symm))
  refine hK.out _ _ ((blk_cell G3 j).trans hj) (fun hHeld=>?_)
  clear hK K
  refine norm_ (a':=?_) ?_ ?_
  rotate_left
  · show Act.put _ (some 11) _ = _
    simp only [Act.put,List.setIfInBounds_toArray,List.set_cons_zero,List.set_cons_succ,i64_w,i32_w];rfl
  refine pure_ (i:=8) (N:=some 12) (v:=?_) (a':=?_) #[true,true,true,true,true,true,true,true,true,false,false] rfl rfl (by kernel_rfl) (fun _ _ _ h=>h) (Or.inl ⟨by rfl,?_⟩) ?_ ?_
  rotate_left
  · intro w';go_simp;with_reducible rfl
  rotate_left
  · simp only [Act.put,List.setIfInBounds_toArray,List.set_cons_zero,List.set_cons_succ,i64_w,i32_w];rfl
  refine pure_ (i:=9) (N:=some 13) (v:=?_) (a':=?_) #[true,true,true,true,true,true,true,true,true,true,false] rfl rfl (by kernel_rfl) (fun _ _ _ h=>h) (Or.inl ⟨by rfl,?_⟩) ?_ ?_
  rotate_left
  · intro w';go_simp;with_reducible rfl
  rotate_left
  · simp only [Act.put,List.setIfInBounds_toArray,List.set_cons_zero,List.set_cons_succ,i64_w,i32_w];rfl
  refine last_ (i:=10) (N:=none) #[true,true,true,true,true,true,true,true,true,true,true] rfl rfl (by kernel_rfl) (by decide) (fun K hK=>?_)
  have F:=blk_frozen G3 j
  have C3:=(blk_cell G3 j).trans hj
  have P:=one_facts (i:=j) G3 (.slice A3 (ys ++ [x]).length c3) rfl
  have R4:=Kd.R_set HR3 G3 (by decide) j (.slice A3 (ys ++ [x]).length c3)
  have KP4:=KP3.setCell (p:=⟨g,j,none⟩) (.inl (.inl rfl)) (.slice A3 (ys ++ [x]).length c3)
  refine skip_ (w1:=w3.setCell ⟨g,j,none⟩ (.slice A3 (ys ++ [x]).length c3)) (by rfl) rfl (by first | (go_simp;done) | (go_simp;rfl)) ?_
  generalize w3.setCell ⟨g,j,none⟩ (.slice A3 (ys ++ [x]).length c3) = w4 at P R4 KP4 ⊢
  refine hK.out _ _ ?_
  clear hK K
  refine done_ (by kernel_rfl) ?_
  go_end0
  refine ⟨rfl,_,P.1,R4,KP4,P.2.2 _ _ HB3 hg,?_⟩
  rcases hat3 with h | ⟨b,e,h⟩
  · exact .inl h
  · exact .inr ⟨b,e,Nat.le_trans HB1.size h⟩
set_option maxHeartbeats 8000000 in
set_option maxRecDepth 1000000 in
theorem popA_calls {w : World} {g j c : Nat} {A : Option Addr} {cs : Array Value} {l : List Act3} (hb : w.heap[g]? = some (.cells cs 85 (0,0))) (hj : cs[j]? = some (.slice A l.length c)) (hr : Kd.C kAct w A l.length l) (hc : l.length ≤ c) (h1 : 0 < l.length) (hl : l.length ≤ 1048576) :
    Calls Tryz.prog 33 #[.pointer (some ⟨g,j,none⟩)] w fun e w'=>e = .returned (.agg #[.int .i64 (lastOf l).f0,.int .i64 (lastOf l).f1,.string (lastOf l).f2]) ∧ w'.heap[g]? = some (.cells (cs.setIfInBounds j (.slice A (l.length - 1) c)) 85 (0,0)) ∧ Kept w w' (fun k=>k = g) ∧ ∀ B,B ≤ g → Below B w w':=by
  have hv : w.cell? ⟨g,j,none⟩ = some (.slice A l.length c):=(blk_cell hb j).trans hj
  obtain ⟨q,hq⟩ : ∃ q,(l.length : Int) - 1 = q:=⟨_,rfl⟩
  have hq0 : 0 ≤ q:=by omega
  have hq1 : q < (l.length : Int):=by omega
  have hw : wrap64 ((l.length : Int) - 1) = q:=by rw [hq];exact w64 (by omega) (by omega)
  have d0 : decide (0 ≤ q) = true:=decide_eq_true hq0
  have d1 : decide (q < (l.length : Int)) = true:=decide_eq_true hq1
  obtain ⟨ad,eA,z0,z1,z2⟩:=at_T35 hr q hq0 hq1
  cases eA
  obtain ⟨x,hx⟩ : ∃ x,rd_T35 l q = x:=⟨_,rfl⟩
  have ht : lastOf l = x:=by unfold lastOf;rw [hq];exact hx
  rw [ht]
  rw [hx] at z0 z1 z2
  clear ht hx
  replace hq:=Lib.hid hq
  have hlt:=blk_lt hb
  have dc : q ≤ (c : Int):=by omega
  have hu:=Tryz.underlying35
  have hn1 : l.length - 1 = q.toNat:=by have:=hq.out;omega
  have B0:=blk_drew (blk_new w (.cells #[.int .i64 0,.int .i64 0,.string ⟨#[]⟩] 35))
  have HB:=below_drew (below_alloc (Below.refl w.heap.size w) (.cells #[.int .i64 0,.int .i64 0,.string ⟨#[]⟩] 35))
  go_enter Tryz.func33,Tryz.ntmps33
  go_wp2
  refine start_ (n:=14) (S:=fun w'=>w'.cell? ⟨g,j,none⟩ = some (.slice (some ad) l.length c) ∧ w'.cell? (ad.add (q.toNat * 3)) = some (.int .i64 x.f0) ∧ w'.cell? ⟨(ad.add (q.toNat * 3)).block,(ad.add (q.toNat * 3)).off + 1,none⟩ = some (.int .i64 x.f1) ∧ w'.cell? ⟨(ad.add (q.toNat * 3)).block,(ad.add (q.toNat * 3)).off + 2,none⟩ = some (.string x.f2)) (ds:=[13]) #[false,false,false,false,false,false,false,false,false,false,false,false,false,false] (by kernel_rfl) rfl rfl (⟨pw_cell_below HB hv,pw_cell_below HB z0,pw_cell_below HB z1,pw_cell_below HB z2⟩) (fun hHeld=>?_)
  generalize (w.alloc (.cells #[.int .i64 0,.int .i64 0,.string ⟨#[]⟩] 35)).drew = w1 at B0 HB hHeld ⊢
  refine pure_ (i:=0) (N:=some 4) (v:=?_) (a':=?_) #[true,false,false,false,false,false,false,false,false,false,false,false,false,false] rfl rfl (by kernel_rfl) (fun _ _ _ h=>h) (Or.inl ⟨by rfl,?_⟩) ?_ ?_
  rotate_left
  · intro w';go_simp;with_reducible rfl
  rotate_left
  · simp only [Act.put,List.setIfInBounds_toArray,List.set_cons_zero,List.set_cons_succ,i64_w,i32_w];rfl
  refine pure_ (i:=1) (N:=some 5) (v:=?_) (a':=?_) #[true,true,false,false,false,false,false,false,false,false,false,false,false,false] rfl rfl (by kernel_rfl) (fun _ _ _ h=>h) (Or.inl ⟨by rfl,?_⟩) ?_ ?_
  rotate_left
  · intro w';go_simp;with_reducible rfl
  rotate_left
  · simp only [Act.put,List.setIfInBounds_toArray,List.set_cons_zero,List.set_cons_succ,i64_w,i32_w];rfl
  refine pure_ (i:=2) (N:=some 6) (v:=?_) (a':=?_) #[true,true,true,false,false,false,false,false,false,false,false,false,false,false] rfl rfl (by kernel_rfl) (fun _ _ _ h=>h) (Or.inl ⟨by rfl,?_⟩) ?_ ?_
  rotate_left
  · intro w';go_simp;with_reducible rfl
  rotate_left
  · simp only [Act.put,List.setIfInBounds_toArray,List.set_cons_zero,List.set_cons_succ,i64_w,i32_w];rfl
  refine pure_ (i:=4) (N:=some 8) (v:=?_) (a':=?_) #[true,true,true,false,true,false,false,false,false,false,false,false,false,false] rfl rfl (by kernel_rfl) (fun _ _ _ h=>h) (Or.inl ⟨by rfl,?_⟩) ?_ ?_
  rotate_left
  · intro w';go_simp;with_reducible rfl
  rotate_left
  · simp only [Act.put,List.setIfInBounds_toArray,List.set_cons_zero,List.set_cons_succ,i64_w,i32_w];rfl
  refine pure_ (i:=5) (N:=some 9) (v:=?_) (a':=?_) #[true,true,true,false,true,true,false,false,false,false,false,false,false,false] rfl rfl (by kernel_rfl) (fun _ _ _ h=>h) (Or.inl ⟨by rfl,?_⟩) ?_ ?_
  rotate_left
  · intro w';go_simp;with_reducible rfl
  rotate_left
  · simp only [Act.put,List.setIfInBounds_toArray,List.set_cons_zero,List.set_cons_succ,i64_w,i32_w];rfl
  refine pure_ (i:=6) (N:=some 10) (v:=?_) (a':=?_) #[true,true,true,false,true,true,true,false,false,false,false,false,false,false] rfl rfl (by kernel_rfl) (fun _ _ _ h=>h) (Or.inl ⟨by rfl,?_⟩) ?_ ?_
  rotate_left
  · intro w';go_simp;with_reducible rfl
  rotate_left
  · simp only [Act.put,List.setIfInBounds_toArray,List.set_cons_zero,List.set_cons_succ,i64_w,i32_w];rfl
  refine take_ (i:=3) (N:=some 7) (v:=?_) (a':=?_) #[true,true,true,true,true,true,true,false,false,false,false,false,false,false] rfl rfl (by kernel_rfl) (fun _ _ _ h=>h) (Or.inl ⟨by rfl,?_⟩) hHeld ?_ ?_
  rotate_left
  · rintro w' ⟨s,s0,s1,s2⟩;go_simp;with_reducible rfl
  rotate_left
  · simp only [Act.put,List.setIfInBounds_toArray,List.set_cons_zero,List.set_cons_succ,i64_w,i32_w];rfl
  refine take_ (i:=7) (N:=some 11) (v:=?_) (a':=?_) #[true,true,true,true,true,true,true,true,false,false,false,false,false,false] rfl rfl (by kernel_rfl) (fun _ _ _ h=>h) (Or.inl ⟨by rfl,?_⟩) hHeld ?_ ?_
  rotate_left
  · rintro w' ⟨s,s0,s1,s2⟩;go_simp;with_reducible rfl
  rotate_left
  · simp only [Act.put,List.setIfInBounds_toArray,List.set_cons_zero,List.set_cons_succ,i64_w,i32_w];rfl
  refine pure_ (i:=8) (N:=some 12) (v:=?_) (a':=?_) #[true,true,true,true,true,true,true,true,true,false,false,false,false,false] rfl rfl (by kernel_rfl) (fun _ _ _ h=>h) (Or.inl ⟨by rfl,?_⟩) ?_ ?_
  rotate_left
  · intro w';go_simp;with_reducible rfl
  rotate_left
  · simp only [Act.put,List.setIfInBounds_toArray,List.set_cons_zero,List.set_cons_succ,i64_w,i32_w];rfl
  refine pure_ (i:=9) (N:=some 13) (v:=?_) (a':=?_) #[true,true,true,true,true,true,true,true,true,true,false,false,false,false] rfl rfl (by kernel_rfl) (fun _ _ _ h=>h) (Or.inl ⟨by rfl,?_⟩) ?_ ?_
  rotate_left
  · intro w';go_simp;with_reducible rfl
  rotate_left
  · simp only [Act.put,List.setIfInBounds_toArray,List.set_cons_zero,List.set_cons_succ,i64_w,i32_w];rfl
  rw [hw]
  refine pure_ (i:=10) (N:=some 14) (v:=?_) (a':=?_) #[true,true,true,true,true,true,true,true,true,true,true,false,false,false] rfl rfl (by kernel_rfl) (fun _ _ _ h=>h) (Or.inl ⟨by rfl,?_⟩) ?_ ?_
  rotate_left
  · intro w';go_simp;with_reducible rfl
  rotate_left
  · simp only [Act.put,List.setIfInBounds_toArray,List.set_cons_zero,List.set_cons_succ,i64_w,i32_w];rfl
  refine take_ (i:=11) (N:=some 15) (v:=?_) (a':=?_) #[true,true,true,true,true,true,true,true,true,true,true,true,false,false] rfl rfl (by kernel_rfl) (fun _ _ _ h=>h) (Or.inl ⟨by rfl,?_⟩) hHeld ?_ ?_
  rotate_left
  · rintro w' ⟨s,s0,s1,s2⟩;go_simp;with_reducible rfl
  rotate_left
  · simp only [Act.put,List.setIfInBounds_toArray,List.set_cons_zero,List.set_cons_succ,i64_w,i32_w];rfl
  refine one_ (i:=12) (N:=some 3) #[true,true,true,true,true,true,true,true,true,true,true,true,true,false] rfl rfl (by kernel_rfl) (by decide) (fun K hK=>?_)
  refine value_ (w1:=w1.alloc (.cells #[.int .i64 0,.int .i64 0,.string ⟨#[]⟩] 35)) (v:=.pointer (some ⟨w1.heap.size,0,none⟩)) (by rfl) rfl (by first | (go_simp;done) | (go_simp;rfl)) ?_
  have T1:=blk_new w1 (.cells #[.int .i64 0,.int .i64 0,.string ⟨#[]⟩] 35)
  have B1:=blk_alloc B0 (.cells #[.int .i64 0,.int .i64 0,.string ⟨#[]⟩] 35)
  have HB1:=below_alloc (Below.refl w1.heap.size w1) (.cells #[.int .i64 0,.int .i64 0,.string ⟨#[]⟩] 35)
  have HB2:=below_step HB HB1
  generalize w1.alloc (.cells #[.int .i64 0,.int .i64 0,.string ⟨#[]⟩] 35) = w2 at T1 B1 HB1 HB2 ⊢
  refine hK.out _ _ (⟨pw_cell_below HB1 hHeld.1,pw_cell_below HB1 hHeld.2.1,pw_cell_below HB1 hHeld.2.2.1,pw_cell_below HB1 hHeld.2.2.2⟩) (fun hHeld=>?_)
  clear hK K
  refine norm_ (a':=?_) ?_ ?_
  rotate_left
  · show Act.put _ (some 3) _ = _
    simp only [Act.put,List.setIfInBounds_toArray,List.set_cons_zero,List.set_cons_succ,i64_w,i32_w];rfl
  refine last_ (i:=13) (N:=none) #[true,true,true,true,true,true,true,true,true,true,true,true,true,true] rfl rfl (by kernel_rfl) (by decide) (fun K hK=>?_)
  have F:=frozen3 T1
  have C:=cells3 T1
  have P:=put3_facts T1 (.int .i64 x.f0) (.int .i64 x.f1) (.string x.f2)
  refine skip_ (w1:=put3 w2 w1.heap.size (.int .i64 x.f0) (.int .i64 x.f1) (.string x.f2)) (by rfl) rfl (by first | (go_simp;done) | (go_simp;rfl)) ?_
  have T3:=P.1
  have HB3:=P.2.2 _ _ HB2 HB.size
  have B3:=(P.2.1 w.heap.size (by have:=blk_lt B0;omega)).trans B1
  generalize put3 w2 w1.heap.size (.int .i64 x.f0) (.int .i64 x.f1) (.string x.f2) = w3 at T3 HB3 B3 ⊢
  clear P F C hHeld
  refine hK.out _ _ ?_
  clear hK K
  refine done_ (by kernel_rfl) ?_
  go_wp2
  have G3:=blk_below hb HB3
  refine start_ (n:=15) (S:=fun w'=>w'.cell? ⟨g,j,none⟩ = some (.slice (some ad) l.length c)) (ds:=[14]) #[false,false,false,false,false,false,false,false,false,false,false,false,false,false,false] (by kernel_rfl) rfl rfl ((blk_cell (blk_drew G3) j).trans hj) (fun hHeld=>?_)
  refine pure_ (i:=0) (N:=some 16) (v:=?_) (a':=?_) #[true,false,false,false,false,false,false,false,false,false,false,false,false,false,false] rfl rfl (by kernel_rfl) (fun _ _ _ h=>h) (Or.inl ⟨by rfl,?_⟩) ?_ ?_
  rotate_left
  · intro w';go_simp;with_reducible rfl
  rotate_left
  · simp only [Act.put,List.setIfInBounds_toArray,List.set_cons_zero,List.set_cons_succ,i64_w,i32_w];rfl
  refine pure_ (i:=1) (N:=some 17) (v:=?_) (a':=?_) #[true,true,false,false,false,false,false,false,false,false,false,false,false,false,false] rfl rfl (by kernel_rfl) (fun _ _ _ h=>h) (Or.inl ⟨by rfl,?_⟩) ?_ ?_
  rotate_left
  · intro w';go_simp;with_reducible rfl
  rotate_left
  · simp only [Act.put,List.setIfInBounds_toArray,List.set_cons_zero,List.set_cons_succ,i64_w,i32_w];rfl
  refine pure_ (i:=2) (N:=some 18) (v:=?_) (a':=?_) #[true,true,true,false,false,false,false,false,false,false,false,false,false,false,false] rfl rfl (by kernel_rfl) (fun _ _ _ h=>h) (Or.inl ⟨by rfl,?_⟩) ?_ ?_
  rotate_left
  · intro w';go_simp;with_reducible rfl
  rotate_left
  · simp only [Act.put,List.setIfInBounds_toArray,List.set_cons_zero,List.set_cons_succ,i64_w,i32_w];rfl
  refine pure_ (i:=3) (N:=some 19) (v:=?_) (a':=?_) #[true,true,true,true,false,false,false,false,false,false,false,false,false,false,false] rfl rfl (by kernel_rfl) (fun _ _ _ h=>h) (Or.inl ⟨by rfl,?_⟩) ?_ ?_
  rotate_left
  · intro w';go_simp;with_reducible rfl
  rotate_left
  · simp only [Act.put,List.setIfInBounds_toArray,List.set_cons_zero,List.set_cons_succ,i64_w,i32_w];rfl
  refine pure_ (i:=5) (N:=some 21) (v:=?_) (a':=?_) #[true,true,true,true,false,true,false,false,false,false,false,false,false,false,false] rfl rfl (by kernel_rfl) (fun _ _ _ h=>h) (Or.inl ⟨by rfl,?_⟩) ?_ ?_
  rotate_left
  · intro w';go_simp;with_reducible rfl
  rotate_left
  · simp only [Act.put,List.setIfInBounds_toArray,List.set_cons_zero,List.set_cons_succ,i64_w,i32_w];rfl
  refine pure_ (i:=6) (N:=some 22) (v:=?_) (a':=?_) #[true,true,true,true,false,true,true,false,false,false,false,false,false,false,false] rfl rfl (by kernel_rfl) (fun _ _ _ h=>h) (Or.inl ⟨by rfl,?_⟩) ?_ ?_
  rotate_left
  · intro w';go_simp;with_reducible rfl
  rotate_left
  · simp only [Act.put,List.setIfInBounds_toArray,List.set_cons_zero,List.set_cons_succ,i64_w,i32_w];rfl
  refine pure_ (i:=7) (N:=some 23) (v:=?_) (a':=?_) #[true,true,true,true,false,true,true,true,false,false,false,false,false,false,false] rfl rfl (by kernel_rfl) (fun _ _ _ h=>h) (Or.inl ⟨by rfl,?_⟩) ?_ ?_
  rotate_left
  · intro w';go_simp;with_reducible rfl
  rotate_left
  · simp only [Act.put,List.setIfInBounds_toArray,List.set_cons_zero,List.set_cons_succ,i64_w,i32_w];rfl
  refine take_ (i:=4) (N:=some 20) (v:=?_) (a':=?_) #[true,true,true,true,true,true,true,true,false,false,false,false,false,false,false] rfl rfl (by kernel_rfl) (fun _ _ _ h=>h) (Or.inl ⟨by rfl,?_⟩) hHeld ?_ ?_
  rotate_left
  · rintro w' s;go_simp;with_reducible rfl
  rotate_left
  · simp only [Act.put,List.setIfInBounds_toArray,List.set_cons_zero,List.set_cons_succ,i64_w,i32_w];rfl
  refine take_ (i:=8) (N:=some 24) (v:=?_) (a':=?_) #[true,true,true,true,true,true,true,true,true,false,false,false,false,false,false] rfl rfl (by kernel_rfl) (fun _ _ _ h=>h) (Or.inl ⟨by rfl,?_⟩) hHeld ?_ ?_
  rotate_left
  · rintro w' s;go_simp;with_reducible rfl
  rotate_left
  · simp only [Act.put,List.setIfInBounds_toArray,List.set_cons_zero,List.set_cons_succ,i64_w,i32_w];rfl
  refine pure_ (i:=9) (N:=some 25) (v:=?_) (a':=?_) #[true,true,true,true,true,true,true,true,true,true,false,false,false,false,false] rfl rfl (by kernel_rfl) (fun _ _ _ h=>h) (Or.inl ⟨by rfl,?_⟩) ?_ ?_
  rotate_left
  · intro w';go_simp;with_reducible rfl
  rotate_left
  · simp only [Act.put,List.setIfInBounds_toArray,List.set_cons_zero,List.set_cons_succ,i64_w,i32_w];rfl
  refine pure_ (i:=10) (N:=some 26) (v:=?_) (a':=?_) #[true,true,true,true,true,true,true,true,true,true,true,false,false,false,false] rfl rfl (by kernel_rfl) (fun _ _ _ h=>h) (Or.inl ⟨by rfl,?_⟩) ?_ ?_
  rotate_left
  · intro w';go_simp;with_reducible rfl
  rotate_left
  · simp only [Act.put,List.setIfInBounds_toArray,List.set_cons_zero,List.set_cons_succ,i64_w,i32_w];rfl
  rw [hw]
  refine pure_ (i:=11) (N:=some 27) (v:=?_) (a':=?_) #[true,true,true,true,true,true,true,true,true,true,true,true,false,false,false] rfl rfl (by kernel_rfl) (fun _ _ _ h=>h) (Or.inl ⟨by rfl,?_⟩) ?_ ?_
  rotate_left
  · intro w';go_simp;with_reducible rfl
  rotate_left
  · simp only [Act.put,List.setIfInBounds_toArray,List.set_cons_zero,List.set_cons_succ,i64_w,i32_w];rfl
  refine pure_ (i:=12) (N:=some 28) (v:=?_) (a':=?_) #[true,true,true,true,true,true,true,true,true,true,true,true,true,false,false] rfl rfl (by kernel_rfl) (fun _ _ _ h=>h) (Or.inl ⟨by rfl,?_⟩) ?_ ?_
  rotate_left
  · intro w';go_simp;with_reducible rfl
  rotate_left
  · simp only [Act.put,List.setIfInBounds_toArray,List.set_cons_zero,List.set_cons_succ,i64_w,i32_w];rfl
  refine pure_ (i:=13) (N:=some 29) (v:=?_) (a':=?_) #[true,true,true,true,true,true,true,true,true,true,true,true,true,true,false] rfl rfl (by kernel_rfl) (fun _ _ _ h=>h) (Or.inl ⟨by rfl,?_⟩) ?_ ?_
  rotate_left
  · intro w';go_simp;with_reducible rfl
  rotate_left
  · simp only [Act.put,List.setIfInBounds_toArray,List.set_cons_zero,List.set_cons_succ,i64_w,i32_w];rfl
  refine last_ (i:=14) (N:=none) #[true,true,true,true,true,true,true,true,true,true,true,true,true,true,true] rfl rfl (by kernel_rfl) (by decide) (fun K hK=>?_)
  have F:=blk_frozen (blk_drew G3) j
  have C3:=(blk_cell (blk_drew G3) j).trans hj
  have P:=one_facts (i:=j) (blk_drew G3) (.slice (some ad) q.toNat c) rfl
  refine skip_ (w1:=w3.drew.setCell ⟨g,j,none⟩ (.slice (some ad) q.toNat c)) (by rfl) rfl (by first | (go_simp;done) | (go_simp;rfl)) ?_
  have T4:=(P.2.1 _ (by have:=HB.size;omega)).trans (blk_drew T3)
  have B4:=(P.2.1 _ (by omega)).trans (blk_drew B3)
  have KP:=Kept.setCell (S:=fun k=>k = g) (Kept.of_below (below_drew HB3) _) (p:=⟨g,j,none⟩) (.inl rfl) (.slice (some ad) q.toNat c)
  have HB4:=fun B (h : B ≤ g)=>P.2.2 B w ((below_drew HB3).mono (Nat.le_trans h (Nat.le_of_lt hlt))) h
  have G4:=P.1
  generalize w3.drew.setCell ⟨g,j,none⟩ (.slice (some ad) q.toNat c) = w4 at T4 B4 KP HB4 G4 ⊢
  clear P F C3
  refine hK.out _ _ ?_
  clear hK K
  refine done_ (by kernel_rfl) ?_
  have tc:=cells3 T4
  have f4:=frozen3 B4
  have b4:=cells3 B4
  go_wp2_with (first
    | ((with_reducible refine gate_store (t:=35) (p:=2) (v:=.tmp 30) rfl ?_);go_must (refine store_event (w1:=put3 w4 w.heap.size (.int .i64 x.f0) (.int .i64 x.f1) (.string x.f2)) (by rfl) (by rfl) (by rfl) ?hr ?_;(case hr=>first | (go_simp;done) | (go_simp;rfl));intro w5 hw5;have Fw5:=put3_facts B4 (.int .i64 x.f0) (.int .i64 x.f1) (.string x.f2);rw [← hw5] at Fw5;clear hw5)))
  refine bodyPost_ret (results_cell_row rfl _ _ w.heap.size 35 #[.int .i64 x.f0,.int .i64 x.f1,.string x.f2] (0,0) _ rfl Fw5.1 Tryz.underlying35 rfl (by kernel_rfl)) rfl ?_
  rw [hn1]
  exact ⟨rfl,(Fw5.2.1 g (by omega)).trans G4,⟨(Fw5.2.2 0 w (HB4 0 (Nat.zero_le _)) (Nat.zero_le _)).size,fun i hi hn=>(Fw5.2.1 i (by omega)).trans (KP.2 i hi hn)⟩,fun B h=>Fw5.2.2 B w (HB4 B h) (Nat.le_of_lt (Nat.lt_of_le_of_lt h hlt))⟩
set_option maxHeartbeats 8000000 in
set_option maxRecDepth 1000000 in
theorem popS_calls {w : World} {g j c : Nat} {A : Option Addr} {cs : Array Value} {sh : List Sht} (hb : w.heap[g]? = some (.cells cs 85 (0,0))) (hj : cs[j]? = some (.slice A sh.length c)) (hr : Kd.C kSht w A sh.length sh) (hc : sh.length ≤ c) (h1 : 0 < sh.length) (hl : sh.length ≤ 1048576) :
    Calls Tryz.prog 34 #[.pointer (some ⟨g,j,none⟩)] w fun e w'=>∃ A7 c7 A8 c8,e = .returned (.agg #[.slice A7 (topOf sh).1.length c7,.slice A8 (topOf sh).2.1.length c8,.int .i64 (topOf sh).2.2.1,.bool (topOf sh).2.2.2]) ∧ w'.heap[g]? = some (.cells (cs.setIfInBounds j (.slice A (sh.length - 1) c)) 85 (0,0)) ∧ Kept w w' (fun k=>k = g) ∧ ∀ B,B ≤ g → Below B w w':=by
  have hv : w.cell? ⟨g,j,none⟩ = some (.slice A sh.length c):=(blk_cell hb j).trans hj
  obtain ⟨q,hq⟩ : ∃ q,(sh.length : Int) - 1 = q:=⟨_,rfl⟩
  have hq0 : 0 ≤ q:=by omega
  have hq1 : q < (sh.length : Int):=by omega
  have hw : wrap64 ((sh.length : Int) - 1) = q:=by rw [hq];exact w64 (by omega) (by omega)
  have d0 : decide (0 ≤ q) = true:=decide_eq_true hq0
  have d1 : decide (q < (sh.length : Int)) = true:=decide_eq_true hq1
  obtain ⟨ad,A7,c7,A8,c8,eA,z0,z1,z2,z3,hS⟩:=at_sht hr q hq0 hq1
  cases eA
  obtain ⟨x,hx⟩ : ∃ x,rdSht sh q = x:=⟨_,rfl⟩
  have ht : topOf sh = x:=by unfold topOf;rw [hq];exact hx
  rw [ht]
  rw [hx] at z0 z1 z2 z3 hS
  clear ht hx
  replace hq:=Lib.hid hq
  have hlt:=blk_lt hb
  have dc : q ≤ (c : Int):=by omega
  have hu:=Tryz.underlying57
  have hn1 : sh.length - 1 = q.toNat:=by have:=hq.out;omega
  have B0:=blk_drew (blk_new w (.cells #[.slice none 0 0,.slice none 0 0,.int .i64 0,.bool false] 57))
  have HB:=below_drew (below_alloc (Below.refl w.heap.size w) (.cells #[.slice none 0 0,.slice none 0 0,.int .i64 0,.bool false] 57))
  go_enter Tryz.func34,Tryz.ntmps34
  go_wp2
  refine start_ (n:=14) (S:=fun w'=>w'.cell? ⟨g,j,none⟩ = some (.slice (some ad) sh.length c) ∧ w'.cell? (ad.add (q.toNat * 4)) = some (.slice A7 x.1.length c7) ∧ w'.cell? ⟨(ad.add (q.toNat * 4)).block,(ad.add (q.toNat * 4)).off + 1,none⟩ = some (.slice A8 x.2.1.length c8) ∧ w'.cell? ⟨(ad.add (q.toNat * 4)).block,(ad.add (q.toNat * 4)).off + 2,none⟩ = some (.int .i64 x.2.2.1) ∧ w'.cell? ⟨(ad.add (q.toNat * 4)).block,(ad.add (q.toNat * 4)).off + 3,none⟩ = some (.bool x.2.2.2)) (ds:=[13]) #[false,false,false,false,false,false,false,false,false,false,false,false,false,false] (by kernel_rfl) rfl rfl (⟨pw_cell_below HB hv,pw_cell_below HB z0,pw_cell_below HB z1,pw_cell_below HB z2,pw_cell_below HB z3⟩) (fun hHeld=>?_)
  generalize (w.alloc (.cells #[.slice none 0 0,.slice none 0 0,.int .i64 0,.bool false] 57)).drew = w1 at B0 HB hHeld ⊢
  refine pure_ (i:=0) (N:=some 4) (v:=?_) (a':=?_) #[true,false,false,false,false,false,false,false,false,false,false,false,false,false] rfl rfl (by kernel_rfl) (fun _ _ _ h=>h) (Or.inl ⟨by rfl,?_⟩) ?_ ?_
  rotate_left
  · intro w';go_simp;with_reducible rfl
  rotate_left
  · simp only [Act.put,List.setIfInBounds_toArray,List.set_cons_zero,List.set_cons_succ,i64_w,i32_w];rfl
  refine pure_ (i:=1) (N:=some 5) (v:=?_) (a':=?_) #[true,true,false,false,false,false,false,false,false,false,false,false,false,false] rfl rfl (by kernel_rfl) (fun _ _ _ h=>h) (Or.inl ⟨by rfl,?_⟩) ?_ ?_
  rotate_left
  · intro w';go_simp;with_reducible rfl
  rotate_left
  · simp only [Act.put,List.setIfInBounds_toArray,List.set_cons_zero,List.set_cons_succ,i64_w,i32_w];rfl
  refine pure_ (i:=2) (N:=some 6) (v:=?_) (a':=?_) #[true,true,true,false,false,false,false,false,false,false,false,false,false,false] rfl rfl (by kernel_rfl) (fun _ _ _ h=>h) (Or.inl ⟨by rfl,?_⟩) ?_ ?_
  rotate_left
  · intro w';go_simp;with_reducible rfl
  rotate_left
  · simp only [Act.put,List.setIfInBounds_toArray,List.set_cons_zero,List.set_cons_succ,i64_w,i32_w];rfl
  refine pure_ (i:=4) (N:=some 8) (v:=?_) (a':=?_) #[true,true,true,false,true,false,false,false,false,false,false,false,false,false] rfl rfl (by kernel_rfl) (fun _ _ _ h=>h) (Or.inl ⟨by rfl,?_⟩) ?_ ?_
  rotate_left
  · intro w';go_simp;with_reducible rfl
  rotate_left
  · simp only [Act.put,List.setIfInBounds_toArray,List.set_cons_zero,List.set_cons_succ,i64_w,i32_w];rfl
  refine pure_ (i:=5) (N:=some 9) (v:=?_) (a':=?_) #[true,true,true,false,true,true,false,false,false,false,false,false,false,false] rfl rfl (by kernel_rfl) (fun _ _ _ h=>h) (Or.inl ⟨by rfl,?_⟩) ?_ ?_
  rotate_left
  · intro w';go_simp;with_reducible rfl
  rotate_left
  · simp only [Act.put,List.setIfInBounds_toArray,List.set_cons_zero,List.set_cons_succ,i64_w,i32_w];rfl
  refine pure_ (i:=6) (N:=some 10) (v:=?_) (a':=?_) #[true,true,true,false,true,true,true,false,false,false,false,false,false,false] rfl rfl (by kernel_rfl) (fun _ _ _ h=>h) (Or.inl ⟨by rfl,?_⟩) ?_ ?_
  rotate_left
  · intro w';go_simp;with_reducible rfl
  rotate_left
  · simp only [Act.put,List.setIfInBounds_toArray,List.set_cons_zero,List.set_cons_succ,i64_w,i32_w];rfl
  refine take_ (i:=3) (N:=some 7) (v:=?_) (a':=?_) #[true,true,true,true,true,true,true,false,false,false,false,false,false,false] rfl rfl (by kernel_rfl) (fun _ _ _ h=>h) (Or.inl ⟨by rfl,?_⟩) hHeld ?_ ?_
  rotate_left
  · rintro w' ⟨s,s0,s1,s2,s3⟩;go_simp;with_reducible rfl
  rotate_left
  · simp only [Act.put,List.setIfInBounds_toArray,List.set_cons_zero,List.set_cons_succ,i64_w,i32_w];rfl
  refine take_ (i:=7) (N:=some 11) (v:=?_) (a':=?_) #[true,true,true,true,true,true,true,true,false,false,false,false,false,false] rfl rfl (by kernel_rfl) (fun _ _ _ h=>h) (Or.inl ⟨by rfl,?_⟩) hHeld ?_ ?_
  rotate_left
  · rintro w' ⟨s,s0,s1,s2,s3⟩;go_simp;with_reducible rfl
  rotate_left
  · simp only [Act.put,List.setIfInBounds_toArray,List.set_cons_zero,List.set_cons_succ,i64_w,i32_w];rfl
  refine pure_ (i:=8) (N:=some 12) (v:=?_) (a':=?_) #[true,true,true,true,true,true,true,true,true,false,false,false,false,false] rfl rfl (by kernel_rfl) (fun _ _ _ h=>h) (Or.inl ⟨by rfl,?_⟩) ?_ ?_
  rotate_left
  · intro w';go_simp;with_reducible rfl
  rotate_left
  · simp only [Act.put,List.setIfInBounds_toArray,List.set_cons_zero,List.set_cons_succ,i64_w,i32_w];rfl
  refine pure_ (i:=9) (N:=some 13) (v:=?_) (a':=?_) #[true,true,true,true,true,true,true,true,true,true,false,false,false,false] rfl rfl (by kernel_rfl) (fun _ _ _ h=>h) (Or.inl ⟨by rfl,?_⟩) ?_ ?_
  rotate_left
  · intro w';go_simp;with_reducible rfl
  rotate_left
  · simp only [Act.put,List.setIfInBounds_toArray,List.set_cons_zero,List.set_cons_succ,i64_w,i32_w];rfl
  rw [hw]
  refine pure_ (i:=10) (N:=some 14) (v:=?_) (a':=?_) #[true,true,true,true,true,true,true,true,true,true,true,false,false,false] rfl rfl (by kernel_rfl) (fun _ _ _ h=>h) (Or.inl ⟨by rfl,?_⟩) ?_ ?_
  rotate_left
  · intro w';go_simp;with_reducible rfl
  rotate_left
  · simp only [Act.put,List.setIfInBounds_toArray,List.set_cons_zero,List.set_cons_succ,i64_w,i32_w];rfl
  refine take_ (i:=11) (N:=some 15) (v:=?_) (a':=?_) #[true,true,true,true,true,true,true,true,true,true,true,true,false,false] rfl rfl (by kernel_rfl) (fun _ _ _ h=>h) (Or.inl ⟨by rfl,?_⟩) hHeld ?_ ?_
  rotate_left
  · rintro w' ⟨s,s0,s1,s2,s3⟩;go_simp;with_reducible rfl
  rotate_left
  · simp only [Act.put,List.setIfInBounds_toArray,List.set_cons_zero,List.set_cons_succ,i64_w,i32_w];rfl
  refine one_ (i:=12) (N:=some 3) #[true,true,true,true,true,true,true,true,true,true,true,true,true,false] rfl rfl (by kernel_rfl) (by decide) (fun K hK=>?_)
  refine value_ (w1:=w1.alloc (.cells #[.slice none 0 0,.slice none 0 0,.int .i64 0,.bool false] 57)) (v:=.pointer (some ⟨w1.heap.size,0,none⟩)) (by rfl) rfl (by first | (go_simp;done) | (go_simp;rfl)) ?_
  have T1:=blk_new w1 (.cells #[.slice none 0 0,.slice none 0 0,.int .i64 0,.bool false] 57)
  have B1:=blk_alloc B0 (.cells #[.slice none 0 0,.slice none 0 0,.int .i64 0,.bool false] 57)
  have HB1:=below_alloc (Below.refl w1.heap.size w1) (.cells #[.slice none 0 0,.slice none 0 0,.int .i64 0,.bool false] 57)
  have HB2:=below_step HB HB1
  generalize w1.alloc (.cells #[.slice none 0 0,.slice none 0 0,.int .i64 0,.bool false] 57) = w2 at T1 B1 HB1 HB2 ⊢
  refine hK.out _ _ (⟨pw_cell_below HB1 hHeld.1,pw_cell_below HB1 hHeld.2.1,pw_cell_below HB1 hHeld.2.2.1,pw_cell_below HB1 hHeld.2.2.2.1,pw_cell_below HB1 hHeld.2.2.2.2⟩) (fun hHeld=>?_)
  clear hK K
  refine norm_ (a':=?_) ?_ ?_
  rotate_left
  · show Act.put _ (some 3) _ = _
    simp only [Act.put,List.setIfInBounds_toArray,List.set_cons_zero,List.set_cons_succ,i64_w,i32_w];rfl
  refine last_ (i:=13) (N:=none) #[true,true,true,true,true,true,true,true,true,true,true,true,true,true] rfl rfl (by kernel_rfl) (by decide) (fun K hK=>?_)
  have F:=frozen4 T1
  have C:=cells4 T1
  have P:=put4_facts T1 (.slice A7 x.1.length c7) (.slice A8 x.2.1.length c8) (.int .i64 x.2.2.1) (.bool x.2.2.2)
  refine skip_ (w1:=put4 w2 w1.heap.size (.slice A7 x.1.length c7) (.slice A8 x.2.1.length c8) (.int .i64 x.2.2.1) (.bool x.2.2.2)) (by rfl) rfl (by first | (go_simp;done) | (go_simp;rfl)) ?_
  have T3:=P.1
  have HB3:=P.2.2 _ _ HB2 HB.size
  have B3:=(P.2.1 w.heap.size (by have:=blk_lt B0;omega)).trans B1
  generalize put4 w2 w1.heap.size (.slice A7 x.1.length c7) (.slice A8 x.2.1.length c8) (.int .i64 x.2.2.1) (.bool x.2.2.2) = w3 at T3 HB3 B3 ⊢
  clear P F C hHeld
  refine hK.out _ _ ?_
  clear hK K
  refine done_ (by kernel_rfl) ?_
  go_wp2
  have G3:=blk_below hb HB3
  refine start_ (n:=15) (S:=fun w'=>w'.cell? ⟨g,j,none⟩ = some (.slice (some ad) sh.length c)) (ds:=[14]) #[false,false,false,false,false,false,false,false,false,false,false,false,false,false,false] (by kernel_rfl) rfl rfl ((blk_cell (blk_drew G3) j).trans hj) (fun hHeld=>?_)
  refine pure_ (i:=0) (N:=some 16) (v:=?_) (a':=?_) #[true,false,false,false,false,false,false,false,false,false,false,false,false,false,false] rfl rfl (by kernel_rfl) (fun _ _ _ h=>h) (Or.inl ⟨by rfl,?_⟩) ?_ ?_
  rotate_left
  · intro w';go_simp;with_reducible rfl
  rotate_left
  · simp only [Act.put,List.setIfInBounds_toArray,List.set_cons_zero,List.set_cons_succ,i64_w,i32_w];rfl
  refine pure_ (i:=1) (N:=some 17) (v:=?_) (a':=?_) #[true,true,false,false,false,false,false,false,false,false,false,false,false,false,false] rfl rfl (by kernel_rfl) (fun _ _ _ h=>h) (Or.inl ⟨by rfl,?_⟩) ?_ ?_
  rotate_left
  · intro w';go_simp;with_reducible rfl
  rotate_left
  · simp only [Act.put,List.setIfInBounds_toArray,List.set_cons_zero,List.set_cons_succ,i64_w,i32_w];rfl
  refine pure_ (i:=2) (N:=some 18) (v:=?_) (a':=?_) #[true,true,true,false,false,false,false,false,false,false,false,false,false,false,false] rfl rfl (by kernel_rfl) (fun _ _ _ h=>h) (Or.inl ⟨by rfl,?_⟩) ?_ ?_
  rotate_left
  · intro w';go_simp;with_reducible rfl
  rotate_left
  · simp only [Act.put,List.setIfInBounds_toArray,List.set_cons_zero,List.set_cons_succ,i64_w,i32_w];rfl
  refine pure_ (i:=3) (N:=some 19) (v:=?_) (a':=?_) #[true,true,true,true,false,false,false,false,false,false,false,false,false,false,false] rfl rfl (by kernel_rfl) (fun _ _ _ h=>h) (Or.inl ⟨by rfl,?_⟩) ?_ ?_
  rotate_left
  · intro w';go_simp;with_reducible rfl
  rotate_left
  · simp only [Act.put,List.setIfInBounds_toArray,List.set_cons_zero,List.set_cons_succ,i64_w,i32_w];rfl
  refine pure_ (i:=5) (N:=some 21) (v:=?_) (a':=?_) #[true,true,true,true,false,true,false,false,false,false,false,false,false,false,false] rfl rfl (by kernel_rfl) (fun _ _ _ h=>h) (Or.inl ⟨by rfl,?_⟩) ?_ ?_
  rotate_left
  · intro w';go_simp;with_reducible rfl
  rotate_left
  · simp only [Act.put,List.setIfInBounds_toArray,List.set_cons_zero,List.set_cons_succ,i64_w,i32_w];rfl
  refine pure_ (i:=6) (N:=some 22) (v:=?_) (a':=?_) #[true,true,true,true,false,true,true,false,false,false,false,false,false,false,false] rfl rfl (by kernel_rfl) (fun _ _ _ h=>h) (Or.inl ⟨by rfl,?_⟩) ?_ ?_
  rotate_left
  · intro w';go_simp;with_reducible rfl
  rotate_left
  · simp only [Act.put,List.setIfInBounds_toArray,List.set_cons_zero,List.set_cons_succ,i64_w,i32_w];rfl
  refine pure_ (i:=7) (N:=some 23) (v:=?_) (a':=?_) #[true,true,true,true,false,true,true,true,false,false,false,false,false,false,false] rfl rfl (by kernel_rfl) (fun _ _ _ h=>h) (Or.inl ⟨by rfl,?_⟩) ?_ ?_
  rotate_left
  · intro w';go_simp;with_reducible rfl
  rotate_left
  · simp only [Act.put,List.setIfInBounds_toArray,List.set_cons_zero,List.set_cons_succ,i64_w,i32_w];rfl
  refine take_ (i:=4) (N:=some 20) (v:=?_) (a':=?_) #[true,true,true,true,true,true,true,true,false,false,false,false,false,false,false] rfl rfl (by kernel_rfl) (fun _ _ _ h=>h) (Or.inl ⟨by rfl,?_⟩) hHeld ?_ ?_
  rotate_left
  · rintro w' s;go_simp;with_reducible rfl
  rotate_left
  · simp only [Act.put,List.setIfInBounds_toArray,List.set_cons_zero,List.set_cons_succ,i64_w,i32_w];rfl
  refine take_ (i:=8) (N:=some 24) (v:=?_) (a':=?_) #[true,true,true,true,true,true,true,true,true,false,false,false,false,false,false] rfl rfl (by kernel_rfl) (fun _ _ _ h=>h) (Or.inl ⟨by rfl,?_⟩) hHeld ?_ ?_
  rotate_left
  · rintro w' s;go_simp;with_reducible rfl
  rotate_left
  · simp only [Act.put,List.setIfInBounds_toArray,List.set_cons_zero,List.set_cons_succ,i64_w,i32_w];rfl
  refine pure_ (i:=9) (N:=some 25) (v:=?_) (a':=?_) #[true,true,true,true,true,true,true,true,true,true,false,false,false,false,false] rfl rfl (by kernel_rfl) (fun _ _ _ h=>h) (Or.inl ⟨by rfl,?_⟩) ?_ ?_
  rotate_left
  · intro w';go_simp;with_reducible rfl
  rotate_left
  · simp only [Act.put,List.setIfInBounds_toArray,List.set_cons_zero,List.set_cons_succ,i64_w,i32_w];rfl
  refine pure_ (i:=10) (N:=some 26) (v:=?_) (a':=?_) #[true,true,true,true,true,true,true,true,true,true,true,false,false,false,false] rfl rfl (by kernel_rfl) (fun _ _ _ h=>h) (Or.inl ⟨by rfl,?_⟩) ?_ ?_
  rotate_left
  · intro w';go_simp;with_reducible rfl
  rotate_left
  · simp only [Act.put,List.setIfInBounds_toArray,List.set_cons_zero,List.set_cons_succ,i64_w,i32_w];rfl
  rw [hw]
  refine pure_ (i:=11) (N:=some 27) (v:=?_) (a':=?_) #[true,true,true,true,true,true,true,true,true,true,true,true,false,false,false] rfl rfl (by kernel_rfl) (fun _ _ _ h=>h) (Or.inl ⟨by rfl,?_⟩) ?_ ?_
  rotate_left
  · intro w';go_simp;with_reducible rfl
  rotate_left
  · simp only [Act.put,List.setIfInBounds_toArray,List.set_cons_zero,List.set_cons_succ,i64_w,i32_w];rfl
  refine pure_ (i:=12) (N:=some 28) (v:=?_) (a':=?_) #[true,true,true,true,true,true,true,true,true,true,true,true,true,false,false] rfl rfl (by kernel_rfl) (fun _ _ _ h=>h) (Or.inl ⟨by rfl,?_⟩) ?_ ?_
  rotate_left
  · intro w';go_simp;with_reducible rfl
  rotate_left
  · simp only [Act.put,List.setIfInBounds_toArray,List.set_cons_zero,List.set_cons_succ,i64_w,i32_w];rfl
  refine pure_ (i:=13) (N:=some 29) (v:=?_) (a':=?_) #[true,true,true,true,true,true,true,true,true,true,true,true,true,true,false] rfl rfl (by kernel_rfl) (fun _ _ _ h=>h) (Or.inl ⟨by rfl,?_⟩) ?_ ?_
  rotate_left
  · intro w';go_simp;with_reducible rfl
  rotate_left
  · simp only [Act.put,List.setIfInBounds_toArray,List.set_cons_zero,List.set_cons_succ,i64_w,i32_w];rfl
  refine last_ (i:=14) (N:=none) #[true,true,true,true,true,true,true,true,true,true,true,true,true,true,true] rfl rfl (by kernel_rfl) (by decide) (fun K hK=>?_)
  have F:=blk_frozen (blk_drew G3) j
  have C3:=(blk_cell (blk_drew G3) j).trans hj
  have P:=one_facts (i:=j) (blk_drew G3) (.slice (some ad) q.toNat c) rfl
  refine skip_ (w1:=w3.drew.setCell ⟨g,j,none⟩ (.slice (some ad) q.toNat c)) (by rfl) rfl (by first | (go_simp;done) | (go_simp;rfl)) ?_
  have T4:=(P.2.1 _ (by have:=HB.size;omega)).trans (blk_drew T3)
  have B4:=(P.2.1 _ (by omega)).trans (blk_drew B3)
  have KP:=Kept.setCell (S:=fun k=>k = g) (Kept.of_below (below_drew HB3) _) (p:=⟨g,j,none⟩) (.inl rfl) (.slice (some ad) q.toNat c)
  have HB4:=fun B (h : B ≤ g)=>P.2.2 B w ((below_drew HB3).mono (Nat.le_trans h (Nat.le_of_lt hlt))) h
  have G4:=P.1
  generalize w3.drew.setCell ⟨g,j,none⟩ (.slice (some ad) q.toNat c) = w4 at T4 B4 KP HB4 G4 ⊢
  clear P F C3
  refine hK.out _ _ ?_
  clear hK K
  refine done_ (by kernel_rfl) ?_
  have tc:=cells4 T4
  have f4:=frozen4 B4
  have b4:=cells4 B4
  go_wp2_with (first
    | ((with_reducible refine gate_store (t:=57) (p:=2) (v:=.tmp 30) rfl ?_);go_must (refine store_event (w1:=put4 w4 w.heap.size (.slice A7 x.1.length c7) (.slice A8 x.2.1.length c8) (.int .i64 x.2.2.1) (.bool x.2.2.2)) (by rfl) (by rfl) (by rfl) ?hr ?_;(case hr=>first | (go_simp;done) | (go_simp;rfl));intro w5 hw5;have Fw5:=put4_facts B4 (.slice A7 x.1.length c7) (.slice A8 x.2.1.length c8) (.int .i64 x.2.2.1) (.bool x.2.2.2);rw [← hw5] at Fw5;clear hw5)))
  refine bodyPost_ret (results_cell_row rfl _ _ w.heap.size 57 #[.slice A7 x.1.length c7,.slice A8 x.2.1.length c8,.int .i64 x.2.2.1,.bool x.2.2.2] (0,0) _ rfl Fw5.1 Tryz.underlying57 rfl (by kernel_rfl)) rfl ?_
  rw [hn1]
  exact ⟨_,_,_,_,rfl,(Fw5.2.1 g (by omega)).trans G4,⟨(Fw5.2.2 0 w (HB4 0 (Nat.zero_le _)) (Nat.zero_le _)).size,fun i hi hn=>(Fw5.2.1 i (by omega)).trans (KP.2 i hi hn)⟩,fun B h=>Fw5.2.2 B w (HB4 B h) (Nat.le_of_lt (Nat.lt_of_le_of_lt h hlt))⟩
end Go.Proofs.YtjopbfidjapmbaaGreatDoor.Q
end
section
namespace Go.Proofs.YtjopbfidjapmbaaGreatDoor.Q
open Go.RowKit Go.Proofs.YtjopbfidjapmbaaGreatDoorW.PrintWords Go.Proofs.YtjopbfidjapmbaaGreatDoorW.PrintLast Go.Proofs.YtjopbfidjapmbaaGreatDoorW.PrintMore
set_option linter.unusedVariables false
set_option linter.unusedSimpArgs false
open Go.Proofs.YtjopbfidjapmbaaGreatDoorS
theorem act_info : (Tryz.prog.info? 35).map (fun i=>(i.zero,i.size,i.bytes)) = some (some (.agg #[.int .i64 0,.int .i64 0,.string ⟨#[]⟩]),3,32):=by kernel_rfl
set_option maxHeartbeats 8000000 in
set_option maxRecDepth 100000 in
theorem cloneA_calls {A0 : Option Addr} {c0 : Nat} {l0 : List Act3} {w : World} (hr0 : Kd.C kAct w A0 l0.length l0) (hc0 : l0.length ≤ c0) (hl : l0.length < 4398046511104) :
    Calls Tryz.prog 35 #[.slice A0 l0.length c0] w fun e w'=>∃ v0_ : Value,e = .returned (v0_) ∧ Kd.R kAct 35 w' w.heap.size (fun _=>True) v0_ l0 ∧ Below w.heap.size w w':=by
  cases A0 with
  | none =>
    have h0 : l0 = []:=by
      cases l0 with
      | nil=>rfl
      | cons x l=>obtain ⟨ad,e,_⟩:=hr0.2.2 (by simp);cases e
    subst h0
    have hnil:=fun (w : World) (e : TypeId) (a : Option Addr) (l c : Nat) (h : Tryz.prog.underlying 22 = some (.slice e))=>Lib.run_eql_slice_nil w 22 e a l c 0 0 h
    replace hnil:=fun (w : World) (a : Option Addr) (l c : Nat)=>hnil w _ a l c Tryz.underlying22
    go_enter Tryz.func35,Tryz.ntmps35
    go_wp2
    go_ret
    exact ⟨_,rfl,Kd.R_nil _ _ _ _ _,Below.refl _ _⟩
  | some ad =>
    have hnil:=fun (w : World) (e : TypeId) (a : Option Addr) (l c : Nat) (h : Tryz.prog.underlying 22 = some (.slice e))=>Lib.run_eql_slice_nil w 22 e a l c 0 0 h
    replace hnil:=fun (w : World) (a : Option Addr) (l c : Nat)=>hnil w _ a l c Tryz.underlying22
    have HR0:=Aside0.mk hr0
    clear hr0
    have HB:=Aside0.mk (Below.refl w.heap.size w)
    obtain ⟨y,hy⟩ : ∃ y_ : List Act3,y_ = (([] : List Act3)):=⟨_,rfl⟩
    have Ny:=Aside0.mk hy
    have hyl : y.length + l0.length < 4398046511104:=by rw [hy];simpa using hl
    have HL:=Aside0.mk hyl
    clear hyl hy hl
    go_enter Tryz.func35,Tryz.ntmps35
    go_wp2_with (first | ((with_reducible refine gate_dst (N:=5) rfl ?_);refine Kd.R_lit kAct _ 35 ?hg (N:=5) ?hd (xs:=([] : List Act3)) (inner:=[]) (ok:=fun _=>True) (okp:=fun _=>True) ?hr ?hp (fun _ hk=>hk) trivial (Below.refl _ _) (Nat.le_refl _) (by simp) ?_;(case hd=>rfl);(case hg=>rfl);(case hr=>first | (go_simp;done) | (go_simp;rfl));(case hp=>exact (Reps.none _ _));intro v1 w3 ho4 hb hg_ hnew_;clear hg_ hnew_;rw [← Ny.out] at ho4;have HO:=Aside0.mk ho4;have HB2:=Aside0.mk hb;clear hb ho4) | ((with_reducible refine gate_builtin (b:=.append) (xs:=#[.tmp 5,.tmp 6]) rfl ?_);at_builtin;refine Kd.R_append_rows kAct (w0:=w) w.heap.size rfl (.tmp 5) (.tmp 6) 22 35 (.agg #[.int .i64 0,.int .i64 0,.string ⟨#[]⟩]) 32 rfl Tryz.underlying22 act_info rfl (by decide) (by omega) v1 y l0 _ _ _ (fun _=>True) (fun _=>False) rfl rfl ?aO ?aR (fun _ _ h=>h) (fun _ h=>h.elim) ?aF ?aB ?aS ?aL ?_;(case aR=>exact Kd.C_below HR0.out HB2.out);(case aB=>exact HB2.out);(case aF=>exact (fun _ _=>trivial));(case aO=>exact HO.out);(case aS=>exact HB2.out.size);(case aL=>have:=HL.out;omega);intro v2 w5 ho hb hg hat;have HB3:=Aside0.mk hb;have HO3:=Aside0.mk ho;clear hb hg hat ho))
    go_ret
    refine ⟨_,rfl,?_,HB3.out⟩
    have:=HO3.out
    rw [Ny.out,List.nil_append] at this
    exact this
end Go.Proofs.YtjopbfidjapmbaaGreatDoor.Q
end
