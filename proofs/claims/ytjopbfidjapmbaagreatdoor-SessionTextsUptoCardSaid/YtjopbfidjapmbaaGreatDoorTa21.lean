/- PART 21 OF A PROOF: Lean functions, and that the program computes them; written by hand and by a program. Not trusted: Lean checks it. -/
import Derived.Test.YtjopbfidjapmbaaGreatDoorTa11
import Derived.Test.YtjopbfidjapmbaaGreatDoorTa15
import Derived.Test.YtjopbfidjapmbaaGreatDoorTa19
import Derived.Test.YtjopbfidjapmbaaGreatDoorTa20
set_option linter.unusedVariables false
set_option linter.unusedSimpArgs false
section
namespace Go.Proofs.YtjopbfidjapmbaaGreatDoor.Q
open Go.RowKit Go.Proofs.YtjopbfidjapmbaaGreatDoorW.PrintWords Go.Proofs.YtjopbfidjapmbaaGreatDoorW.PrintLast Go.Proofs.YtjopbfidjapmbaaGreatDoorW.PrintMore
set_option linter.unusedVariables false
set_option linter.unusedSimpArgs false
open Go.Proofs.YtjopbfidjapmbaaGreatDoorS
def SesT (own : Nat → Prop) (w : World) (base g : Nat) (P : Puz) (S : SS) : Prop:=Ses own w base g P S ∧ ∀ k,own k → k < w.heap.size
def nextOwn (own : Nat → Prop) (w w' : World) : Nat → Prop:=fun k=>(own k ∨ w.heap.size ≤ k) ∧ k < w'.heap.size
theorem SesOut.trim {own : Nat → Prop} {w w' : World} {base g : Nat} {P : Puz} {S : SS} (h : SesOut own w base g P S w') : SesT (nextOwn own w w') w' base g P S ∧ Kept w w' own ∧ Below base w w':=by
  obtain ⟨⟨_,_,_,_,_,_,_,_,hs⟩,hk,hB⟩:=h
  exact ⟨⟨⟨_,_,_,_,_,_,_,_,hs.trim⟩,fun k hk=>hk.2⟩,hk,hB⟩
theorem SesT.below {own : Nat → Prop} {w w' : World} {base g : Nat} {P : Puz} {S : SS} (h : SesT own w base g P S) (hb : Below w.heap.size w w') : SesT own w' base g P S:=by
  obtain ⟨⟨_,_,_,_,_,_,_,_,hs⟩,ho⟩:=h
  exact ⟨⟨_,_,_,_,_,_,_,_,hs.below hb⟩,fun k hk=>Nat.lt_of_lt_of_le (ho k hk) hb.size⟩
theorem SesT.kept {own T : Nat → Prop} {w w' : World} {base g : Nat} {P : Puz} {S : SS} (h : SesT own w base g P S) (hk : Kept w w' T) (hn : ∀ k,own k → ¬ T k) : SesT own w' base g P S:=by
  obtain ⟨⟨_,_,_,_,_,_,_,_,hs⟩,ho⟩:=h
  exact ⟨⟨_,_,_,_,_,_,_,_,hs.kept hk hn⟩,fun k hk2=>Nat.lt_of_lt_of_le (ho k hk2) hk.1⟩
structure SesOk (P : Puz) (S : SS) : Prop where
  z : PuzS P.t P.cells P.clues
  h1 : 0 < S.sh.length
  hl : S.sh.length ≤ 1000000
  hl2 : S.log.length ≤ 1000000
  hl3 : S.on.length ≤ 1000000
  sm : ∀ s ∈ S.sh,ShtS s
  ac : ∀ a ∈ S.on,a.f2.size ≤ 1048576
theorem SesOk.top {P : Puz} {S : SS} (h : SesOk P S) : ShtS (topOf S.sh):=by
  have h1:=h.h1
  rw [topOf_eq h1]
  exact h.sm _ (shN_mem (by omega))
section
variable {own : Nat → Prop} {w : World} {base g : Nat} {P : Puz} {S : SS}
theorem wsheet (h : SesT own w base g P S) (ok : SesOk P S) :
    Calls Tryz.prog 19 #[.pointer (some ⟨g,0,none⟩)] w fun e w'=>∃ u0 u1,e = .returned (.agg #[u0,u1,.int .i64 (topOf S.sh).2.2.1,.bool (topOf S.sh).2.2.2]) ∧ Kd.R Kd.string 9 w' w.heap.size (fun _=>True) u0 (topOf S.sh).1 ∧ Kd.R Kd.bool 4 w' w.heap.size (fun _=>True) u1 (topOf S.sh).2.1 ∧ Below w.heap.size w w' ∧ SesT own w' base g P S:=by
  obtain ⟨_,_,_,_,_,_,_,_,hs⟩:=h.1
  refine (sheet_calls hs ok.h1 (by have:=ok.hl;omega) ok.top).mono ?_
  rintro e w' ⟨u0,u1,rfl,h0,h1,hb⟩
  exact ⟨u0,u1,rfl,h0,h1,hb,h.below hb⟩
theorem wlog (h : SesT own w base g P S) (ok : SesOk P S) :
    Calls Tryz.prog 16 #[.pointer (some ⟨g,0,none⟩)] w fun e w'=>∃ u,e = .returned u ∧ Kd.R kAct 35 w' w.heap.size (fun _=>True) u S.log ∧ Below w.heap.size w w' ∧ SesT own w' base g P S:=by
  obtain ⟨_,_,_,_,_,_,_,_,hs⟩:=h.1
  refine (log_calls hs (by have:=ok.hl2;omega)).mono ?_
  rintro e w' ⟨u,rfl,h0,hb⟩
  exact ⟨u,rfl,h0,hb,h.below hb⟩
theorem won (h : SesT own w base g P S) :
    Calls Tryz.prog 20 #[.pointer (some ⟨g,0,none⟩)] w fun e w'=>e = .returned (.int .i64 S.on.length) ∧ Below w.heap.size w w' ∧ SesT own w' base g P S:=by
  obtain ⟨_,_,_,_,_,_,_,_,hs⟩:=h.1
  refine (on_calls hs).mono ?_
  rintro e w' ⟨rfl,hb⟩
  exact ⟨rfl,hb,h.below hb⟩
theorem wdo {a : Act3} (hT : Tabs w) (h : SesT own w base g P S) (ok : SesOk P S) (ha : a.f2.size ≤ 1048576) :
    Calls Tryz.prog 13 #[.pointer (some ⟨g,0,none⟩),.agg #[.int .i64 a.f0,.int .i64 a.f1,.string a.f2]] w fun e w'=>e = .returned (.int .i64 (sDo P S a).2) ∧ SesT (nextOwn own w w') w' base g P (sDo P S a).1 ∧ Kept w w' own ∧ Below base w w':=by
  obtain ⟨_,_,_,_,_,_,_,_,hs⟩:=h.1
  refine (do_calls hT hs ok.h1 ok.hl ok.hl2 ok.z ok.top.sm ha).mono ?_
  rintro e w' ⟨rfl,ho⟩
  exact ⟨rfl,ho.trim⟩
theorem wundo (h : SesT own w base g P S) (ok : SesOk P S) :
    Calls Tryz.prog 14 #[.pointer (some ⟨g,0,none⟩)] w fun e w'=>e = .returned (.int .i64 (sUndo S).2) ∧ SesT (nextOwn own w w') w' base g P (sUndo S).1 ∧ Kept w w' own ∧ Below base w w':=by
  obtain ⟨_,_,_,_,_,_,_,_,hs⟩:=h.1
  refine (undo_calls hs ok.h1 ok.hl ok.hl2 ok.hl3).mono ?_
  rintro e w' ⟨rfl,ho⟩
  exact ⟨rfl,ho.trim⟩
theorem wredo (hT : ∀ w',Below base w w' → Tabs w') (h : SesT own w base g P S) (ok : SesOk P S) :
    Calls Tryz.prog 15 #[.pointer (some ⟨g,0,none⟩)] w fun e w'=>e = .returned (.int .i64 (sRedo P S).2) ∧ SesT (nextOwn own w w') w' base g P (sRedo P S).1 ∧ Kept w w' own ∧ Below base w w':=by
  obtain ⟨_,_,_,_,_,_,_,_,hs⟩:=h.1
  refine (redo_calls hT hs ok.h1 ok.hl ok.hl2 ok.hl3 ok.z ok.top.sm ?_).mono ?_
  · rintro a hn rfl
    rw [lastOf_eq hn]
    exact ok.ac _ (acN_mem (by omega))
  rintro e w' ⟨rfl,ho⟩
  exact ⟨rfl,ho.trim⟩
end
end Go.Proofs.YtjopbfidjapmbaaGreatDoor.Q
end
section
namespace Go.Proofs.YtjopbfidjapmbaaGreatDoor.Q
open Go.RowKit Go.Proofs.YtjopbfidjapmbaaGreatDoorW.PrintWords Go.Proofs.YtjopbfidjapmbaaGreatDoorW.PrintLast Go.Proofs.YtjopbfidjapmbaaGreatDoorW.PrintMore
set_option linter.unusedVariables false
set_option linter.unusedSimpArgs false
open Go.Proofs.YtjopbfidjapmbaaGreatDoorS
def kRow : List Bool:=List.replicate 2 false
def kCells : List ByteArray:=[⟨#[67]⟩,⟨#[67,72]⟩]
def kClues : List ByteArray:=[⟨#[]⟩]
def kPuz : Puz:=⟨⟨#[]⟩,1,2,kRow,kRow,kRow,kCells,kClues⟩
def kS0 : Sht:=(List.replicate 2 ⟨#[]⟩,List.replicate 2 false,0,false)
def kS1 : Sht:=([⟨#[67]⟩,⟨#[]⟩],[true,false],1,false)
def kAct1 : Act3:=⟨1,0,⟨#[99]⟩⟩
theorem kstart : sstart ⟨#[]⟩ 1 2 kRow kRow kRow kCells kClues = (kS0.1,kS0.2.1,kS0.2.2.1,kS0.2.2.2,0):=by decide +kernel
theorem kdo0 : doOf ⟨#[]⟩ 1 2 kRow kRow kRow kCells kClues (List.replicate 2 ⟨#[]⟩) (List.replicate 2 false) 0 false 1 0 ⟨#[99]⟩ = ([⟨#[67]⟩,⟨#[]⟩],[true,false],1,false,0):=by decide +kernel
theorem kdo : doP kPuz kS0 kAct1 = (kS1,0):=by unfold doP kPuz kS0 kS1 kAct1;dsimp only;rw [kdo0]
theorem ksmall {l : List ByteArray} (h : l.all (fun s=>decide (s.size ≤ 1048576)) = true) : Small l:=fun s hs=>of_decide_eq_true (List.all_eq_true.1 h s hs)
theorem kz : PuzS ⟨#[]⟩ kCells kClues:=⟨by decide,ksmall (by decide +kernel),ksmall (by decide +kernel),by decide,by decide⟩
theorem kok {sh : List Sht} {log on : List Act3} (h1 : 0 < sh.length) (hl : sh.length ≤ 1000000) (hl2 : log.length ≤ 1000000) (hl3 : on.length ≤ 1000000) (hs : ∀ s ∈ sh,s = kS0 ∨ s = kS1) (ha : ∀ a ∈ on,a = kAct1) : SesOk kPuz ⟨sh,log,on⟩ :=
  ⟨kz,h1,hl,hl2,hl3,fun s h=>by
    rcases hs s h with rfl | rfl
    · exact ⟨ksmall (by decide +kernel),by decide,by decide⟩
    · exact ⟨ksmall (by decide +kernel),by decide,by decide⟩,fun a h=>by
    obtain rfl:=ha a h
    decide⟩
theorem kok2 : SesOk kPuz ⟨[kS0,kS1],[kAct1],[]⟩:=kok (by decide) (by decide) (by decide) (by decide) (by intro s hs;rcases List.mem_cons.1 hs with rfl | hs;exact .inl rfl;exact .inr (List.mem_singleton.1 hs)) (by intro a ha;cases ha)
theorem kdo1 : sDo kPuz ⟨[kS0],[],[]⟩ kAct1 = (⟨[kS0,kS1],[kAct1],[]⟩,0):=sDo_ok (by decide) kdo
theorem kundo : sUndo ⟨[kS0,kS1],[kAct1],[]⟩ = (⟨[kS0],[],[kAct1]⟩,0):=rfl
theorem kredo : sRedo kPuz ⟨[kS0],[],[kAct1]⟩ = (⟨[kS0,kS1],[kAct1],[]⟩,0):=by
  show sAct kPuz ⟨[kS0],[],[]⟩ kAct1 = _
  unfold sAct
  rw [show topOf (SS.sh ⟨[kS0],[],[]⟩) = kS0 from rfl,kdo]
  rfl
theorem SesT.of {own : Nat → Prop} {w : World} {base g : Nat} {P : Puz} {S : SS} (h : Ses own w base g P S) : SesT (fun k=>own k ∧ k < w.heap.size) w base g P S:=by
  obtain ⟨_,_,_,_,_,_,_,_,hs⟩:=h
  exact ⟨⟨_,_,_,_,_,_,_,_,hs.trim⟩,fun k hk=>hk.2⟩
theorem below_low {w w1 w2 w3 : World} (h : Below w1.heap.size w2 w3) (k : Below w.heap.size w w1) : Below w.heap.size w2 w3:=h.mono k.size
theorem run_field0 (w : World) (b c d : Value) (A : Option Addr) (n m : Nat) : (Instr.field 57 (.agg #[.slice A n m,b,c,d]) 0).run Tryz.prog w = .ok (.slice A n m) w:=by kernel_rfl
def awake24.T1 : Bool × List (List Nat × List Nat):=(true,[([],[]),([],[]),([],[]),([0,1,2],[0,1,2]),([],[]),([],[]),([3,4,5],[3,4,5]),([],[]),([7,6,0,1,2,3,4,5,6,7],[6,7])])
def awake24.B1 : List Nat:=[0,0,0,7,0,0,63,0,255]
theorem awake24.tab1 : rtab .any (opsOf Tryz.f5 1) = awake24.T1:=by kernel_rfl
theorem awake24.bits1 : waitsOk awake24.T1.2 awake24.B1 = true:=by kernel_rfl
set_option maxHeartbeats 8000000 in
set_option maxRecDepth 1000000 in
theorem rebuslaw24_awake.calls {w : World} (hT : Tabs w) :
    Calls Tryz.prog 5 #[] w fun e w'=>e = .returned (.bool true) ∧ Below w.heap.size w w':=by
  have hu27:=Tryz.underlying42
  have hu24:=Tryz.underlying39
  have hu36:=Tryz.underlying35
  have hu38:=Tryz.underlying57
  go_enter Tryz.func5,Tryz.ntmps5
  go_wp2
  have HB:=below_drew (Below.refl w.heap.size w)
  obtain ⟨g,hg⟩ : ∃ g,w.heap.size = g:=⟨_,rfl⟩
  refine start_ (n:=9) (S:=fun w'=>True) (ds:=[]) #[false,false,false,false,false,false,false,false,false] (by kernel_rfl) rfl rfl trivial (fun hHeld=>?_)
  refine with_tabW awake24.tab1 awake24.bits1 (fun HT_ HW_=>?_)
  generalize w.drew = w3 at HB hHeld ⊢
  rw [hg] at HB
  refine inv_at [0,1,2,3,4,5,6,7,8] (fun a0_ b a w'=>∃ v0 v1 v2 v3 v4 m3 m6 : Value,∃ gp : Nat,a = putSel a0_ b [(0,4,v0),(1,5,v1),(2,6,v2),(3,7,m3),(4,8,v3),(5,9,v4),(6,10,m6),(7,1,.pointer (some ⟨gp,0,none⟩))] ∧ (b 7 = true → b 8 = false → g ≤ gp ∧ w'.heap[gp]? = some (.cells #[.string (⟨#[]⟩ : ByteArray),.int .i64 0,.int .i64 0,.slice none 0 0,.slice none 0 0,.slice none 0 0,.slice none 0 0,.slice none 0 0] 42 (0,0))) ∧ Below g w w' ∧ (b 0 = true → Kd.R Kd.bool 4 w' g (fun _=>True) v0 kRow) ∧ (b 1 = true → Kd.R Kd.bool 4 w' g (fun _=>True) v1 kRow) ∧ (b 2 = true → Kd.R Kd.bool 4 w' g (fun _=>True) v2 kRow) ∧ (b 4 = true → Kd.R Kd.string 9 w' g (fun _=>True) v3 kCells) ∧ (b 5 = true → Kd.R Kd.string 9 w' g (fun _=>True) v4 kClues) ∧ (b 8 = true → g ≤ gp ∧ w'.heap[gp]? = some (.cells #[.string (⟨#[]⟩ : ByteArray),.int .i64 1,.int .i64 2,v0,v1,v2,v3,v4] 42 (0,0))) ∧ (b 3 = true → m3 = .agg #[.int .i64 1,.int .i64 2,v0,v1,v2]) ∧ (b 6 = true → m6 = .agg #[.string (⟨#[]⟩ : ByteArray),.int .i64 1,.int .i64 2,v0,v1,v2,v3,v4])) HT_.out HW_.out (by kernel_rfl) (by kernel_rfl) ?_ ?_ ?_
  · exact ⟨.bool false,.bool false,.bool false,.bool false,.bool false,.bool false,.bool false,0,by simp only [putSel,Bool.false_eq_true,if_false],fun h_=>absurd h_ (by decide),HB,fun h_=>absurd h_ (by decide),fun h_=>absurd h_ (by decide),fun h_=>absurd h_ (by decide),fun h_=>absurd h_ (by decide),fun h_=>absurd h_ (by decide),fun h_=>absurd h_ (by decide),fun h_=>absurd h_ (by decide),fun h_=>absurd h_ (by decide)⟩
  · clear HB
    refine steps_cons ?_ ?_
    · rintro b a w' ⟨v0,v1,v2,v3,v4,m3,m6,gp,ha,QB,QH,R0,R1,R2,R3,R4,QF,X3,X6⟩ hb_ hon hoff
      refine ⟨_,rfl,fun K hK=>?_⟩
      have hsz : g ≤ w'.heap.size:=by rw [← hg];exact QH.size
      refine Kd.R_make_step Kd.bool _ 4 (by rfl) (N:=4) rfl 37 _ _ rfl 2 rfl rfl Tryz.underlying37 (.bool false) 1 bool_info rfl (by decide) (by decide) false (ok:=fun _=>True) (okp:=fun _=>True) rfl (fun _ hk=>hk) trivial (by decide) (by decide) (Below.refl _ _) (Nat.le_refl _) ?_
      intro v0 w4 ho hb _ _
      refine hK.out _ _ ⟨v0,v1,v2,v3,v4,m3,m6,gp,(by rw [ha];exact putSel_upk 0 hb_ rfl rfl rfl),fun h7 h8=>⟨(QB h7 (hoff 8 (by kernel_rfl))).1,blk_below (QB h7 (hoff 8 (by kernel_rfl))).2 hb⟩,QH.trans (hb.mono hsz),fun _=>Kd.R_lower ho hsz,fun h_=>Kd.R_below (R1 h_) hb,fun h_=>Kd.R_below (R2 h_) hb,fun h_=>Kd.R_below (R3 h_) hb,fun h_=>Kd.R_below (R4 h_) hb,fun h_=>absurd ((hoff 8 (by kernel_rfl)).symm.trans h_) (by decide),fun h_=>absurd ((hoff 3 (by kernel_rfl)).symm.trans h_) (by decide),fun h_=>absurd ((hoff 6 (by kernel_rfl)).symm.trans h_) (by decide)⟩
    refine steps_cons ?_ ?_
    · rintro b a w' ⟨v0,v1,v2,v3,v4,m3,m6,gp,ha,QB,QH,R0,R1,R2,R3,R4,QF,X3,X6⟩ hb_ hon hoff
      refine ⟨_,rfl,fun K hK=>?_⟩
      have hsz : g ≤ w'.heap.size:=by rw [← hg];exact QH.size
      refine Kd.R_make_step Kd.bool _ 4 (by rfl) (N:=5) rfl 37 _ _ rfl 2 rfl rfl Tryz.underlying37 (.bool false) 1 bool_info rfl (by decide) (by decide) false (ok:=fun _=>True) (okp:=fun _=>True) rfl (fun _ hk=>hk) trivial (by decide) (by decide) (Below.refl _ _) (Nat.le_refl _) ?_
      intro v1 w4 ho hb _ _
      refine hK.out _ _ ⟨v0,v1,v2,v3,v4,m3,m6,gp,(by rw [ha];exact putSel_upk 1 hb_ rfl rfl rfl),fun h7 h8=>⟨(QB h7 (hoff 8 (by kernel_rfl))).1,blk_below (QB h7 (hoff 8 (by kernel_rfl))).2 hb⟩,QH.trans (hb.mono hsz),fun h_=>Kd.R_below (R0 h_) hb,fun _=>Kd.R_lower ho hsz,fun h_=>Kd.R_below (R2 h_) hb,fun h_=>Kd.R_below (R3 h_) hb,fun h_=>Kd.R_below (R4 h_) hb,fun h_=>absurd ((hoff 8 (by kernel_rfl)).symm.trans h_) (by decide),fun h_=>absurd ((hoff 3 (by kernel_rfl)).symm.trans h_) (by decide),fun h_=>absurd ((hoff 6 (by kernel_rfl)).symm.trans h_) (by decide)⟩
    refine steps_cons ?_ ?_
    · rintro b a w' ⟨v0,v1,v2,v3,v4,m3,m6,gp,ha,QB,QH,R0,R1,R2,R3,R4,QF,X3,X6⟩ hb_ hon hoff
      refine ⟨_,rfl,fun K hK=>?_⟩
      have hsz : g ≤ w'.heap.size:=by rw [← hg];exact QH.size
      refine Kd.R_make_step Kd.bool _ 4 (by rfl) (N:=6) rfl 37 _ _ rfl 2 rfl rfl Tryz.underlying37 (.bool false) 1 bool_info rfl (by decide) (by decide) false (ok:=fun _=>True) (okp:=fun _=>True) rfl (fun _ hk=>hk) trivial (by decide) (by decide) (Below.refl _ _) (Nat.le_refl _) ?_
      intro v2 w4 ho hb _ _
      refine hK.out _ _ ⟨v0,v1,v2,v3,v4,m3,m6,gp,(by rw [ha];exact putSel_upk 2 hb_ rfl rfl rfl),fun h7 h8=>⟨(QB h7 (hoff 8 (by kernel_rfl))).1,blk_below (QB h7 (hoff 8 (by kernel_rfl))).2 hb⟩,QH.trans (hb.mono hsz),fun h_=>Kd.R_below (R0 h_) hb,fun h_=>Kd.R_below (R1 h_) hb,fun _=>Kd.R_lower ho hsz,fun h_=>Kd.R_below (R3 h_) hb,fun h_=>Kd.R_below (R4 h_) hb,fun h_=>absurd ((hoff 8 (by kernel_rfl)).symm.trans h_) (by decide),fun h_=>absurd ((hoff 3 (by kernel_rfl)).symm.trans h_) (by decide),fun h_=>absurd ((hoff 6 (by kernel_rfl)).symm.trans h_) (by decide)⟩
    refine steps_cons ?_ ?_
    · rintro b a w' ⟨v0,v1,v2,v3,v4,m3,m6,gp,ha,QB,QH,R0,R1,R2,R3,R4,QF,X3,X6⟩ hb_ hon hoff
      refine ⟨_,rfl,fun K hK=>?_⟩
      have hsz : g ≤ w'.heap.size:=by rw [← hg];exact QH.size
      have e0 : a.tmps[4]? = some v0:=by rw [ha];exact putSel_on (e:=(0,4,v0)) 0 rfl rfl (hon 0 (by kernel_rfl)) rfl
      have e1 : a.tmps[5]? = some v1:=by rw [ha];exact putSel_on (e:=(1,5,v1)) 1 rfl rfl (hon 1 (by kernel_rfl)) rfl
      have e2 : a.tmps[6]? = some v2:=by rw [ha];exact putSel_on (e:=(2,6,v2)) 2 rfl rfl (hon 2 (by kernel_rfl)) rfl
      replace ha:=Aside0.mk ha
      obtain ⟨A0,n0,c0,rfl⟩:=R_slice3 (R0 (hon 0 (by kernel_rfl)))
      obtain ⟨A1,n1,c1,rfl⟩:=R_slice3 (R1 (hon 1 (by kernel_rfl)))
      obtain ⟨A2,n2,c2,rfl⟩:=R_slice3 (R2 (hon 2 (by kernel_rfl)))
      refine value_ (w1:=w') (v:=.agg #[.int .i64 1,.int .i64 2,.slice A0 n0 c0,.slice A1 n1 c1,.slice A2 n2 c2]) (by rfl) rfl ?_ ?_
      · go_simp
        (try simp only [i64_w])
        try rfl
      exact hK.out _ _ ⟨.slice A0 n0 c0,.slice A1 n1 c1,.slice A2 n2 c2,v3,v4,(.agg #[.int .i64 1,.int .i64 2,.slice A0 n0 c0,.slice A1 n1 c1,.slice A2 n2 c2]),m6,gp,(by rw [ha.out];exact putSel_upk 3 hb_ rfl rfl rfl),fun h7 h8=>QB h7 (hoff 8 (by kernel_rfl)),QH,R0,R1,R2,R3,R4,fun h_=>absurd ((hoff 8 (by kernel_rfl)).symm.trans h_) (by decide),fun _=>rfl,fun h_=>absurd ((hoff 6 (by kernel_rfl)).symm.trans h_) (by decide)⟩
    refine steps_cons ?_ ?_
    · rintro b a w' ⟨v0,v1,v2,v3,v4,m3,m6,gp,ha,QB,QH,R0,R1,R2,R3,R4,QF,X3,X6⟩ hb_ hon hoff
      refine ⟨_,rfl,fun K hK=>?_⟩
      have hsz : g ≤ w'.heap.size:=by rw [← hg];exact QH.size
      refine Kd.R_lit_step Kd.string _ 9 ?hg (N:=8) ?hd (xs:=([(⟨#[67]⟩ : ByteArray),(⟨#[67,72]⟩ : ByteArray)] : List ByteArray)) (inner:=[.string (⟨#[67]⟩ : ByteArray),.string (⟨#[67,72]⟩ : ByteArray)]) (ok:=fun _=>True) (okp:=fun _=>True) ?hr ?hp (fun _ hk=>hk) trivial (Below.refl _ _) (Nat.le_refl _) (by simp) ?_;(case hd=>rfl);(case hg=>rfl);(case hr=>first | (go_simp;done) | (go_simp;rfl));(case hp=>exact (Reps.one (show Kd.M Kd.string _ _ _ (⟨#[67]⟩ : ByteArray) [.string (⟨#[67]⟩ : ByteArray)] from rfl) (Reps.one (show Kd.M Kd.string _ _ _ (⟨#[67,72]⟩ : ByteArray) [.string (⟨#[67,72]⟩ : ByteArray)] from rfl) (Reps.none _ _))))
      intro v3 w4 ho hb _ _
      refine hK.out _ _ ⟨v0,v1,v2,v3,v4,m3,m6,gp,(by rw [ha];exact putSel_upk 4 hb_ rfl rfl rfl),fun h7 h8=>⟨(QB h7 (hoff 8 (by kernel_rfl))).1,blk_below (QB h7 (hoff 8 (by kernel_rfl))).2 hb⟩,QH.trans (hb.mono hsz),fun h_=>Kd.R_below (R0 h_) hb,fun h_=>Kd.R_below (R1 h_) hb,fun h_=>Kd.R_below (R2 h_) hb,fun _=>Kd.R_lower ho hsz,fun h_=>Kd.R_below (R4 h_) hb,fun h_=>absurd ((hoff 8 (by kernel_rfl)).symm.trans h_) (by decide),fun h_=>X3 h_,fun h_=>absurd ((hoff 6 (by kernel_rfl)).symm.trans h_) (by decide)⟩
    refine steps_cons ?_ ?_
    · rintro b a w' ⟨v0,v1,v2,v3,v4,m3,m6,gp,ha,QB,QH,R0,R1,R2,R3,R4,QF,X3,X6⟩ hb_ hon hoff
      refine ⟨_,rfl,fun K hK=>?_⟩
      have hsz : g ≤ w'.heap.size:=by rw [← hg];exact QH.size
      refine Kd.R_lit_step Kd.string _ 9 ?hg (N:=9) ?hd (xs:=([(⟨#[]⟩ : ByteArray)] : List ByteArray)) (inner:=[.string (⟨#[]⟩ : ByteArray)]) (ok:=fun _=>True) (okp:=fun _=>True) ?hr ?hp (fun _ hk=>hk) trivial (Below.refl _ _) (Nat.le_refl _) (by simp) ?_;(case hd=>rfl);(case hg=>rfl);(case hr=>first | (go_simp;done) | (go_simp;rfl));(case hp=>exact (Reps.one (show Kd.M Kd.string _ _ _ (⟨#[]⟩ : ByteArray) [.string (⟨#[]⟩ : ByteArray)] from rfl) (Reps.none _ _)))
      intro v4 w4 ho hb _ _
      refine hK.out _ _ ⟨v0,v1,v2,v3,v4,m3,m6,gp,(by rw [ha];exact putSel_upk 5 hb_ rfl rfl rfl),fun h7 h8=>⟨(QB h7 (hoff 8 (by kernel_rfl))).1,blk_below (QB h7 (hoff 8 (by kernel_rfl))).2 hb⟩,QH.trans (hb.mono hsz),fun h_=>Kd.R_below (R0 h_) hb,fun h_=>Kd.R_below (R1 h_) hb,fun h_=>Kd.R_below (R2 h_) hb,fun h_=>Kd.R_below (R3 h_) hb,fun _=>Kd.R_lower ho hsz,fun h_=>absurd ((hoff 8 (by kernel_rfl)).symm.trans h_) (by decide),fun h_=>X3 h_,fun h_=>absurd ((hoff 6 (by kernel_rfl)).symm.trans h_) (by decide)⟩
    refine steps_cons ?_ ?_
    · rintro b a w' ⟨v0,v1,v2,v3,v4,m3,m6,gp,ha,QB,QH,R0,R1,R2,R3,R4,QF,X3,X6⟩ hb_ hon hoff
      refine ⟨_,rfl,fun K hK=>?_⟩
      have hsz : g ≤ w'.heap.size:=by rw [← hg];exact QH.size
      have e7 : a.tmps[7]? = some m3:=by rw [ha];exact putSel_on (e:=(3,7,m3)) 3 rfl rfl (hon 3 (by kernel_rfl)) rfl
      rw [X3 (hon 3 (by kernel_rfl))] at e7
      have e8 : a.tmps[8]? = some v3:=by rw [ha];exact putSel_on (e:=(4,8,v3)) 4 rfl rfl (hon 4 (by kernel_rfl)) rfl
      have e9 : a.tmps[9]? = some v4:=by rw [ha];exact putSel_on (e:=(5,9,v4)) 5 rfl rfl (hon 5 (by kernel_rfl)) rfl
      replace ha:=Aside0.mk ha
      obtain ⟨A0,n0,c0,rfl⟩:=R_slice3 (R0 (hon 0 (by kernel_rfl)))
      obtain ⟨A1,n1,c1,rfl⟩:=R_slice3 (R1 (hon 1 (by kernel_rfl)))
      obtain ⟨A2,n2,c2,rfl⟩:=R_slice3 (R2 (hon 2 (by kernel_rfl)))
      obtain ⟨A3,n3,c3,rfl⟩:=R_slice3 (R3 (hon 4 (by kernel_rfl)))
      obtain ⟨A4,n4,c4,rfl⟩:=R_slice3 (R4 (hon 5 (by kernel_rfl)))
      refine value_ (w1:=w') (v:=.agg #[.string (⟨#[]⟩ : ByteArray),.int .i64 1,.int .i64 2,.slice A0 n0 c0,.slice A1 n1 c1,.slice A2 n2 c2,.slice A3 n3 c3,.slice A4 n4 c4]) (by rfl) rfl ?_ ?_
      · go_simp
        (try simp only [i64_w])
        try rfl
      exact hK.out _ _ ⟨.slice A0 n0 c0,.slice A1 n1 c1,.slice A2 n2 c2,.slice A3 n3 c3,.slice A4 n4 c4,m3,(.agg #[.string (⟨#[]⟩ : ByteArray),.int .i64 1,.int .i64 2,.slice A0 n0 c0,.slice A1 n1 c1,.slice A2 n2 c2,.slice A3 n3 c3,.slice A4 n4 c4]),gp,(by rw [ha.out];exact putSel_upk 6 hb_ rfl rfl rfl),fun h7 h8=>QB h7 (hoff 8 (by kernel_rfl)),QH,R0,R1,R2,R3,R4,fun h_=>absurd ((hoff 8 (by kernel_rfl)).symm.trans h_) (by decide),X3,fun _=>rfl⟩
    refine steps_cons ?_ ?_
    · rintro b a w' ⟨v0,v1,v2,v3,v4,m3,m6,gp,ha,QB,QH,R0,R1,R2,R3,R4,QF,X3,X6⟩ hb_ hon hoff
      refine ⟨_,rfl,fun K hK=>?_⟩
      have hsz : g ≤ w'.heap.size:=by rw [← hg];exact QH.size
      have hb:=below_alloc (Below.refl w'.heap.size w') (.cells #[.string (⟨#[]⟩ : ByteArray),.int .i64 0,.int .i64 0,.slice none 0 0,.slice none 0 0,.slice none 0 0,.slice none 0 0,.slice none 0 0] 42)
      refine value_ (w1:=w'.alloc (.cells #[.string (⟨#[]⟩ : ByteArray),.int .i64 0,.int .i64 0,.slice none 0 0,.slice none 0 0,.slice none 0 0,.slice none 0 0,.slice none 0 0] 42)) (v:=.pointer (some ⟨w'.heap.size,0,none⟩)) (by rfl) rfl (by first | (go_simp;done) | (go_simp;rfl)) ?_
      have hn:=blk_new w' (.cells #[.string (⟨#[]⟩ : ByteArray),.int .i64 0,.int .i64 0,.slice none 0 0,.slice none 0 0,.slice none 0 0,.slice none 0 0,.slice none 0 0] 42)
      exact hK.out _ _ ⟨v0,v1,v2,v3,v4,m3,m6,w'.heap.size,(by rw [ha];exact putSel_upk 7 hb_ rfl rfl rfl),fun _ _=>⟨hsz,hn⟩,QH.trans (hb.mono hsz),fun h_=>Kd.R_below (R0 h_) hb,fun h_=>Kd.R_below (R1 h_) hb,fun h_=>Kd.R_below (R2 h_) hb,fun h_=>Kd.R_below (R3 h_) hb,fun h_=>Kd.R_below (R4 h_) hb,fun h_=>absurd ((hoff 8 (by kernel_rfl)).symm.trans h_) (by decide),fun h_=>X3 h_,fun h_=>X6 h_⟩
    refine steps_cons ?_ ?_
    · rintro b a w' ⟨v0,v1,v2,v3,v4,m3,m6,gp,ha,QB,QH,R0,R1,R2,R3,R4,QF,X3,X6⟩ hb_ hon hoff
      refine ⟨_,rfl,fun K hK=>?_⟩
      have hsz : g ≤ w'.heap.size:=by rw [← hg];exact QH.size
      have e1 : a.tmps[1]? = some (.pointer (some ⟨gp,0,none⟩)):=by rw [ha];exact putSel_on (e:=(7,1,.pointer (some ⟨gp,0,none⟩))) 7 rfl rfl (hon 7 (by kernel_rfl)) rfl
      have e10 : a.tmps[10]? = some m6:=by rw [ha];exact putSel_on (e:=(6,10,m6)) 6 rfl rfl (hon 6 (by kernel_rfl)) rfl
      rw [X6 (hon 6 (by kernel_rfl))] at e10
      replace ha:=Aside0.mk ha
      obtain ⟨hge,hB⟩:=QB (hon 7 (by kernel_rfl)) hb_
      obtain ⟨A0,n0,c0,rfl⟩:=R_slice3 (R0 (hon 0 (by kernel_rfl)))
      obtain ⟨A1,n1,c1,rfl⟩:=R_slice3 (R1 (hon 1 (by kernel_rfl)))
      obtain ⟨A2,n2,c2,rfl⟩:=R_slice3 (R2 (hon 2 (by kernel_rfl)))
      obtain ⟨A3,n3,c3,rfl⟩:=R_slice3 (R3 (hon 4 (by kernel_rfl)))
      obtain ⟨A4,n4,c4,rfl⟩:=R_slice3 (R4 (hon 5 (by kernel_rfl)))
      obtain ⟨s0,s1,s2,s3,s4,s5,s6,s7⟩:=cells8 hB
      have f0:=blk_frozen hB 0
      have f1:=blk_frozen hB 1
      have f2:=blk_frozen hB 2
      have f3:=blk_frozen hB 3
      have f4:=blk_frozen hB 4
      have f5:=blk_frozen hB 5
      have f6:=blk_frozen hB 6
      have f7:=blk_frozen hB 7
      obtain ⟨p1,p2,p3⟩:=put8_facts hB (.string (⟨#[]⟩ : ByteArray)) (.int .i64 1) (.int .i64 2) (.slice A0 n0 c0) (.slice A1 n1 c1) (.slice A2 n2 c2) (.slice A3 n3 c3) (.slice A4 n4 c4)
      replace hB:=Aside0.mk hB
      refine skip_ (w1:=put8 w' gp (.string (⟨#[]⟩ : ByteArray)) (.int .i64 1) (.int .i64 2) (.slice A0 n0 c0) (.slice A1 n1 c1) (.slice A2 n2 c2) (.slice A3 n3 c3) (.slice A4 n4 c4)) (by rfl) rfl ?_ ?_
      · clear p1 p2 p3
        go_simp
        rfl
      exact hK.out _ _ ⟨.slice A0 n0 c0,.slice A1 n1 c1,.slice A2 n2 c2,.slice A3 n3 c3,.slice A4 n4 c4,m3,m6,gp,(by rw [ha.out];exact putSel_none (v:=undef) rfl),fun _ h0_=>absurd ((up_self b 8).symm.trans h0_) (by decide),p3 _ _ QH hge,fun h_=>R_of_heap (R0 h_) hB.out (by decide) p2,fun h_=>R_of_heap (R1 h_) hB.out (by decide) p2,fun h_=>R_of_heap (R2 h_) hB.out (by decide) p2,fun h_=>R_of_heap (R3 h_) hB.out (by decide) p2,fun h_=>R_of_heap (R4 h_) hB.out (by decide) p2,fun _=>⟨hge,p1⟩,X3,X6⟩
    exact steps_nil
  rintro b a w' hall ⟨v0,v1,v2,v3,v4,m3,m6,gp,ha,QB,QH,R0,R1,R2,R3,R4,QF,X3,X6⟩
  have hb0_:=hall 0 (by kernel_rfl)
  have hb1_:=hall 1 (by kernel_rfl)
  have hb2_:=hall 2 (by kernel_rfl)
  have hb3_:=hall 3 (by kernel_rfl)
  have hb4_:=hall 4 (by kernel_rfl)
  have hb5_:=hall 5 (by kernel_rfl)
  have hb6_:=hall 6 (by kernel_rfl)
  have hb7_:=hall 7 (by kernel_rfl)
  have hb8_:=hall 8 (by kernel_rfl)
  subst ha
  obtain ⟨hge,hF⟩:=QF hb8_
  replace hF:=Lib.hid hF
  replace hge:=Lib.hid hge
  have R0':=Lib.hid (R0 hb0_)
  have R1':=Lib.hid (R1 hb1_)
  have R2':=Lib.hid (R2 hb2_)
  have R3':=Lib.hid (R3 hb4_)
  have R4':=Lib.hid (R4 hb5_)
  have QH':=Lib.hid QH
  simp only [putSel,hb0_,hb1_,hb2_,hb3_,hb4_,hb5_,hb6_,hb7_,if_true,Act.put,List.setIfInBounds_toArray,List.set_cons_zero,List.set_cons_succ]
  clear QB QF R0 R1 R2 R3 R4 X3 X6 QH hall hb0_ hb1_ hb2_ hb3_ hb4_ hb5_ hb6_ hb7_ hb8_ HB
  subst hg
  obtain ⟨A0,c0,rfl,k0,C0⟩:=Kd.R_reads R0'.out
  obtain ⟨A1,c1,rfl,k1,C1⟩:=Kd.R_reads R1'.out
  obtain ⟨A2,c2,rfl,k2,C2⟩:=Kd.R_reads R2'.out
  obtain ⟨A3,c3,rfl,k3,C3⟩:=Kd.R_reads R3'.out
  obtain ⟨A4,c4,rfl,k4,C4⟩:=Kd.R_reads R4'.out
  have hP:=Lib.hid (PuzR.mk C0 k0 C1 k1 C2 k2 C3 k3 C4 k4)
  clear R0' R1' R2' R3' R4' C0 C1 C2 C3 C4 k0 k1 k2 k3 k4
  have x8:=cells8 hF.out
  have hT1:=Lib.hid (tabs_below hT QH'.out)
  have hst:=kstart
  have hnew:=Lib.hid (new_calls (H:=1) (W:=2) hT1.out hP.out kz (by decide) (by decide) (by decide))
  rw [kstart] at hnew
  have tok1 : True:=trivial
  have tok2 : True:=trivial
  have tok3 : True:=trivial
  have tok4 : True:=trivial
  clear hst x8
  have x8:=cells8 hF.out
  go_wp2_with (first
    | (go_at_call 11;go_must (refine hnew.out.mono ?_;rintro e w2 hN;rcases hN with ⟨h,_⟩ | ⟨_,g2,rfl,hS,hb⟩;(exact absurd rfl h);have hS2:=Lib.hid (show SesT (fun k=>w'.heap.size ≤ k ∧ k < w2.heap.size) w2 w'.heap.size g2 kPuz ⟨[kS0],[],[]⟩ from SesT.of hS);have hB2:=Lib.hid (below_step QH'.out hb);clear hS hb))
    | (go_at_call 13;go_must (refine (wdo (a:=kAct1) (tabs_below hT hB2.out) hS2.out (kok (by decide) (by decide) (by decide) (by decide) (by intro s hs;exact .inl (List.mem_singleton.1 hs)) (by intro a ha;cases ha)) (by decide)).mono ?_;rw [kdo1];rintro e w3 ⟨rfl,hS,hk,hb⟩;have hS3:=Lib.hid hS;have hB3:=Lib.hid (hB2.out.trans (below_low hb QH'.out));clear hS hk hb))
    | (go_at_call 16;go_must (refine (wlog hS3.out kok2).mono ?_;rintro e w4 ⟨u,rfl,hr,hb,hS⟩;obtain ⟨Dl,kl,rfl⟩:=Kd.R_slice hr;rw [show (SS.log ⟨[kS0,kS1],[kAct1],[]⟩).length = 1 from rfl];have hS4:=Lib.hid hS;have hB4:=Lib.hid (below_step hB3.out hb);clear hS hb hr))
    | (go_at_call 19;have tq:=tok1;go_must (clear tq tok1;refine (wsheet hS4.out kok2).mono ?_;rw [show topOf (SS.sh ⟨[kS0,kS1],[kAct1],[]⟩) = kS1 from rfl];rintro e w5 ⟨u0,u1,rfl,h0,h1,hb,hS⟩;obtain ⟨D0,k0,rfl⟩:=Kd.R_slice h0;obtain ⟨D1,k1,rfl⟩:=Kd.R_slice h1;rw [show kS1.1.length = 2 from rfl];have hS5:=Lib.hid hS;have hB5:=Lib.hid (below_step hB4.out hb);clear hS hb h0 h1))
    )
  rw [run_field0]
  simp only [Result.andThen]
  rw [Oper.upon_value]
  go_wp2_with (first
    | (go_at_call 19;have tq:=tok2;go_must (clear tq tok2;refine (wsheet hS5.out kok2).mono ?_;rw [show topOf (SS.sh ⟨[kS0,kS1],[kAct1],[]⟩) = kS1 from rfl];rintro e w6 ⟨u0,u1,rfl,h0,h1,hb,hS⟩;obtain ⟨D2,k2,rfl⟩:=Kd.R_slice h0;obtain ⟨D3,k3,rfl⟩:=Kd.R_slice h1;obtain ⟨ad2,eA2,z2⟩:=Kd.at_string (Kd.R_reads' h0).2.2 0 (by decide) (by decide);cases eA2;rw [show ad2.add (Int.toNat 0) = ad2 from rfl] at z2;rw [show rdOf ByteArray.empty kS1.1 0 = ⟨#[67]⟩ from rfl] at z2;rw [show kS1.1.length = 2 from rfl];have hS6:=Lib.hid hS;have hB6:=Lib.hid (below_step hB5.out hb);clear hS hb h0 h1))
    )
  rw [run_field0]
  simp only [Result.andThen]
  rw [Oper.upon_value]
  go_wp2_with (first
    | (go_at_call 14;go_must (refine (wundo hS6.out kok2).mono ?_;rw [kundo];rintro e w7 ⟨rfl,hS,hk,hb⟩;have hS7:=Lib.hid hS;have hB7:=Lib.hid (hB6.out.trans (below_low hb QH'.out));clear hS hk hb))
    | (go_at_call 20;have tq:=tok3;go_must (clear tq tok3;refine (won hS7.out).mono ?_;rintro e w8 ⟨rfl,hb,hS⟩;rw [show (SS.on ⟨[kS0],[],[kAct1]⟩).length = 1 from rfl];have hS8:=Lib.hid hS;have hB8:=Lib.hid (below_step hB7.out hb);clear hS hb))
    | (go_at_call 15;go_must (refine (wredo (fun w2 h=>tabs_below hT (hB8.out.trans (below_low h QH'.out))) hS8.out (kok (by decide) (by decide) (by decide) (by decide) (by intro s hs;exact .inl (List.mem_singleton.1 hs)) (by intro a ha;exact List.mem_singleton.1 ha))).mono ?_;rw [kredo];rintro e w9 ⟨rfl,hS,hk,hb⟩;have hS9:=Lib.hid hS;have hB9:=Lib.hid (hB8.out.trans (below_low hb QH'.out));clear hS hk hb))
    | (go_at_call 20;have tq:=tok4;go_must (clear tq tok4;refine (won hS9.out).mono ?_;rintro e w10 ⟨rfl,hb,hS⟩;rw [show (SS.on ⟨[kS0,kS1],[kAct1],[]⟩).length = 0 from rfl];have hB10:=Lib.hid (below_step hB9.out hb);clear hS hb))
    )
  go_ret
  exact ⟨rfl,hB10.out⟩
end Go.Proofs.YtjopbfidjapmbaaGreatDoor.Q
end
section
namespace Go.Proofs.YtjopbfidjapmbaaGreatDoor.Q
open Go.RowKit Go.Proofs.YtjopbfidjapmbaaGreatDoorW.PrintWords Go.Proofs.YtjopbfidjapmbaaGreatDoorW.PrintLast Go.Proofs.YtjopbfidjapmbaaGreatDoorW.PrintMore
set_option linter.unusedVariables false
set_option linter.unusedSimpArgs false
open Go.Proofs.YtjopbfidjapmbaaGreatDoorS
theorem same24_loop (l : List Act3) (hl : l.length ≤ 1048576) : ∀ (d i : Nat),i + d = l.length → rebusref24_Same.l0 (d + 1) l l (i : Int) = some true
  | 0,i,h=>by
    unfold rebusref24_Same.l0
    rw [if_neg (by omega)]
  | d + 1,i,h=>by
    unfold rebusref24_Same.l0
    rw [if_pos (by omega),if_pos (by omega),if_pos (by omega),if_neg (by simp),w64 (by omega) (by omega)]
    exact same24_loop l hl d (i + 1) (by omega)
theorem same24_calls {A B : Option Addr} {c d : Nat} {l : List Act3} {w : World} (hl : l.length ≤ 1048576) (h1 : Kd.C kAct w A l.length l) (k1 : l.length ≤ c) (h2 : Kd.C kAct w B l.length l) (k2 : l.length ≤ d) :
    Calls Tryz.prog 8 #[.slice A l.length c,.slice B l.length d] w fun e w'=>e = .returned (.bool true) ∧ Below w.heap.size w w':=by
  refine (rebusref24_Same.calls (l.length + 1) A c l B d l true w h1 k1 h2 k2 ?_).mono ?_
  · unfold rebusref24_Same.f
    rw [if_pos rfl]
    exact same24_loop l hl l.length 0 (by omega)
  · rintro e w' ⟨rfl,hd⟩
    exact ⟨rfl,hd.below⟩
structure SBox (own : Nat → Prop) (w : World) (base b : Nat) (x : Sht) (A7 : Option Addr) (c7 : Nat) (A8 : Option Addr) (c8 : Nat) : Prop where
  bx : w.heap[b]? = some (.cells #[.slice A7 x.1.length c7,.slice A8 x.2.1.length c8,.int .i64 x.2.2.1,.bool x.2.2.2] 57 (0,0))
  n : ¬ own b
  r7 : Kd.R Kd.string 9 w base (fun k=>¬ own k) (.slice A7 x.1.length c7) x.1
  r8 : Kd.R Kd.bool 4 w base (fun k=>¬ own k) (.slice A8 x.2.1.length c8) x.2.1
theorem SBox.below {own : Nat → Prop} {w w' : World} {base b : Nat} {x : Sht} {A7 : Option Addr} {c7 : Nat} {A8 : Option Addr} {c8 : Nat} (h : SBox own w base b x A7 c7 A8 c8) (hb : Below w.heap.size w w') : SBox own w' base b x A7 c7 A8 c8:=⟨blk_below h.bx hb,h.n,Kd.R_below h.r7 hb,Kd.R_below h.r8 hb⟩
structure SideW (own : Nat → Prop) (w : World) (base : Nat) (vL : Value) (L : List Sht) (vg : Value) (log : List Act3) (b11 b13 : Nat) (x y : Sht) (A1 : Option Addr) (c1 : Nat) (A2 : Option Addr) (c2 : Nat) (A3 : Option Addr) (c3 : Nat) (A4 : Option Addr) (c4 : Nat) : Prop where
  l : Kd.R kSht 57 w base (fun k=>¬ own k) vL L
  g : Kd.R kAct 35 w base (fun k=>¬ own k) vg log
  x : SBox own w base b11 x A1 c1 A2 c2
  y : SBox own w base b13 y A3 c3 A4 c4
section
variable {own : Nat → Prop} {w w' : World} {base : Nat} {vL : Value} {L : List Sht} {vg : Value} {log : List Act3} {b11 b13 : Nat} {x y : Sht} {A1 : Option Addr} {c1 : Nat} {A2 : Option Addr} {c2 : Nat} {A3 : Option Addr} {c3 : Nat} {A4 : Option Addr} {c4 : Nat}
theorem SideW.below (h : SideW own w base vL L vg log b11 b13 x y A1 c1 A2 c2 A3 c3 A4 c4) (hb : Below w.heap.size w w') : SideW own w' base vL L vg log b11 b13 x y A1 c1 A2 c2 A3 c3 A4 c4:=⟨Kd.R_below h.l hb,Kd.R_below h.g hb,h.x.below hb,h.y.below hb⟩
end
end Go.Proofs.YtjopbfidjapmbaaGreatDoor.Q
end
section
namespace Go.Proofs.YtjopbfidjapmbaaGreatDoor.Q
open Go.RowKit Go.Proofs.YtjopbfidjapmbaaGreatDoorW.PrintWords Go.Proofs.YtjopbfidjapmbaaGreatDoorW.PrintLast Go.Proofs.YtjopbfidjapmbaaGreatDoorW.PrintMore
set_option linter.unusedVariables false
set_option linter.unusedSimpArgs false
open Go.Proofs.YtjopbfidjapmbaaGreatDoorS
theorem rd_range {T : List UInt8} {l : List Act3} (h : Rd T l []) (hT : T.length ≤ 1048576) : ∀ a ∈ l,(-9223372036854775808 ≤ a.f1 ∧ a.f1 ≤ 9223372036854775807) ∧ a.f2.size ≤ 1048576:=by
  intro a ha
  have hg:=h.g a ha
  have hlen : (lineL a).length ≤ T.length:=by
    rw [h.t,List.append_nil]
    obtain ⟨x,y,rfl⟩:=List.append_of_mem ha
    simp only [joinL,List.flatMap_append,List.flatMap_cons,List.length_append]
    omega
  have:=hg.2
  rcases good_kind hg.1 with ⟨h1,h2,h3⟩ | ⟨h1,h2,h3⟩ | ⟨h1,h2,h3⟩
  · have e : lineL a = tyL ++ a.f2.data.toList:=by unfold lineL;rw [if_pos h1]
    rw [e,List.length_append,show tyL.length = 5 from rfl] at hlen
    have h4 : a.f2.size = a.f2.data.toList.length:=ba_len rfl
    exact ⟨⟨by omega,by omega⟩,by omega⟩
  · exact ⟨⟨by omega,by omega⟩,by rw [h3];show 0 ≤ _;omega⟩
  · exact ⟨⟨by omega,by omega⟩,by rw [h3];show 0 ≤ _;omega⟩
theorem wr_good {log : List Act3} {s : ByteArray} {r c : Int} (hg : ∀ a ∈ log,goodA a = true) (h : WrIs log s r c) : s = ⟨(joinL log).toArray⟩ ∧ r = 0 ∧ c = 0:=by
  rcases h with ⟨_,h⟩ | ⟨n,hn,_,h2,_⟩
  · exact h
  · rw [hg _ (acN_mem hn)] at h2;cases h2
theorem wr_bad {log : List Act3} {s : ByteArray} {r c : Int} (hg : ¬ ∀ a ∈ log,goodA a = true) (h : WrIs log s r c) : c = 231:=by
  rcases h with ⟨h,_⟩ | ⟨n,_,_,_,_,_,h⟩
  · exact absurd h hg
  · exact h
theorem rd_good {text : ByteArray} {l m : List Act3} {r c : Int} (h : RdIs text m 0 0) (h2 : RdIs text l r c) : r = 0 ∧ c = 0 ∧ Rd text.data.toList l []:=by
  obtain ⟨rfl,rfl,rfl⟩:=h.uniq h2
  rcases h with ⟨_,_,_,h⟩ | ⟨_,⟨h,_⟩ | ⟨_,_,_,_,_,_,h⟩⟩
  · cases h
  · exact ⟨rfl,rfl,h⟩
  · cases h
theorem rd_bad {text : ByteArray} {l : List Act3} {r c : Int} (h : ¬ ∃ m,RdIs text m 0 0) (h2 : RdIs text l r c) : (c == 0) = false:=by
  rcases h2 with ⟨_,_,_,h3⟩ | ⟨h1,⟨h3,rfl,rfl⟩ | ⟨_,_,_,_,_,_,h3⟩⟩
  · rw [h3];rfl
  · exact absurd ⟨l,.inr ⟨h1,.inl ⟨h3,rfl,rfl⟩⟩⟩ h
  · rw [h3];rfl
theorem law_acts {A : Option Addr} {log : List Act3} {w w' : World} (h : Kd.C kAct w A log.length log) (hb : Below w.heap.size w w') : Kd.C kAct w' A log.length log:=Kd.C_below h hb
set_option maxHeartbeats 16000000 in
set_option maxRecDepth 1000000 in
theorem SessionTexts.calls {A : Option Addr} {c : Nat} {log : List Act3} {text : ByteArray} {w : World} (hT : Tabs w) (hE : ErrT w) (hO : Kd.C kAct w A log.length log) (hc : log.length ≤ c) (hn : log.length ≤ 1048576) (hz : ∀ a ∈ log,(-9223372036854775808 ≤ a.f1 ∧ a.f1 ≤ 9223372036854775807) ∧ a.f2.size ≤ 1048576) :
    Calls Tryz.prog 3 #[.slice A log.length c,.string text] w fun e w'=>e = .returned (.bool true) ∧ Below w.heap.size w w':=by
  have hu:=Tryz.underlying35
  replace hz:=Lib.hid hz
  by_cases hok : ∃ m,RdIs text m 0 0
  · obtain ⟨m0,hok⟩:=hok
    have htz:=Lib.hid (show text.data.toList.length ≤ 1048576 by
      have h1 : text.size = text.data.toList.length:=ba_len rfl
      rcases hok with ⟨_,_,_,h⟩ | ⟨h,_⟩
      · cases h
      · omega)
    replace hok:=Lib.hid hok
    by_cases hwk : ∀ a ∈ log,goodA a = true
    rotate_left
    · replace hwk:=Lib.hid hwk
      have tok1 : True:=trivial
      have tok2 : True:=trivial
      have tok3 : True:=trivial
      go_enter Tryz.func3,Tryz.ntmps3
      go_wp2_with (first
        | (go_at_call 5;go_must (refine (rebuslaw24_awake.calls hT).mono ?_;rintro e w1 ⟨rfl,hb⟩;have hB1:=Lib.hid hb;clear hb))
        | ((with_reducible refine gate_dst (N:=25) rfl ?_);go_must (refine Kd.R_lit kAct _ 35 ?hg (N:=25) ?hd (xs:=([] : List Act3)) (inner:=[]) (ok:=fun _=>True) (okp:=fun _=>True) ?hr ?hp (fun _ hk=>hk) trivial (Below.refl _ _) (Nat.le_refl _) (by simp) ?_;(case hd=>rfl);(case hg=>rfl);(case hr=>first | (go_simp;done) | (go_simp;rfl));(case hp=>exact (Reps.none _ _));intro v2 w2 ho2 hb hg_ hnew_;clear hg_ hnew_;have hB2:=Lib.hid hb;have hB2w:=Lib.hid (below_step hB1.out hb);replace ho2:=Lib.hid ho2;clear hb))
        | ((with_reducible refine gate_builtin (b:=.append) (xs:=#[.tmp 25,.tmp 26]) rfl ?_);go_must (at_builtin;refine Kd.R_append_rows kAct (w0:=w1) w1.heap.size rfl (.tmp 25) (.tmp 26) 22 35 (.agg #[.int .i64 0,.int .i64 0,.string ⟨#[]⟩]) 32 rfl Tryz.underlying22 act_info rfl (by decide) (by decide) v2 ([] : List Act3) log _ _ _ (fun _=>True) (fun _=>False) rfl rfl ?aO ?aR (fun _ _ h=>h) (fun _ h=>h.elim) ?aF ?aB ?aS ?aL ?_;(case aR=>exact law_acts hO hB2w.out);(case aB=>exact hB2.out);(case aF=>exact (fun _ _=>trivial));(case aO=>exact ho2.out);(case aS=>exact hB2.out.size);(case aL=>simp only [List.length_nil];omega);intro v3 w3 ho hb hg_ hat_;clear hg_ hat_;rw [List.nil_append] at ho;obtain ⟨D,k,rfl⟩:=Kd.R_slice ho;have hI3:=Lib.hid ho;have hB3:=Lib.hid (below_step hB1.out hb);clear hb ho))
        | (go_at_call 6;have tq:=tok1;go_must (clear tq tok1;refine (gwrite_calls (tabs_below hT hB3.out) (Kd.R_reads' hI3.out).2.2 hn hz.out).mono ?_;rintro e w4 ⟨⟨s,r,c0,rfl,hW⟩,hb⟩;have hB4:=Lib.hid (below_step hB3.out hb);have hI4:=Lib.hid (Kd.R_below hI3.out hb);clear hb;obtain rfl:=wr_bad hwk.out hW;replace hW:=Lib.hid hW))
        | (go_at_call 7;go_must (refine (rwrite_calls (law_acts hO hB4.out) hc hn hz.out).mono ?_;rintro e w5 ⟨⟨s2,r2,c2,rfl,hW2⟩,hb⟩;have hB5:=Lib.hid (below_step hB4.out hb);have hI5:=Lib.hid (Kd.R_below hI4.out hb);have hun:=hW2.uniq hW.out;clear hb hW2;obtain ⟨e1,e2,e3⟩:=hun;subst e1;subst e2;subst e3))
        | (go_at_call 8;have tq:=tok2;go_must (clear tq tok2;have g1:=Kd.R_reads' hI5.out;refine (same24_calls hn g1.2.2 g1.2.1 (law_acts hO hB5.out) hc).mono ?_;rintro e w6 ⟨rfl,hb⟩;have hB6:=Lib.hid (below_step hB5.out hb);clear hb g1 hI5 hI4 hI3))
        | (go_at_call 9;have tq:=tok3;go_must (clear tq tok3;refine (gread_calls (tabs_below hT hB6.out) (errt_below hE hB6.out)).mono ?_;rintro e w7 ⟨u,l,r3,c3,rfl,hR,hll,hK,hb⟩;have hB7:=Lib.hid (below_step hB6.out hb);clear hb;obtain ⟨DL,kL,rfl⟩:=Kd.R_slice hK;have hK7:=Lib.hid hK;clear hK;obtain ⟨rfl,rfl,hRd⟩:=rd_good hok.out hR;replace hRd:=Lib.hid hRd;replace hR:=Lib.hid hR))
        | (go_at_call 10;go_must (refine rread_calls.mono ?_;rintro e w8 ⟨u2,l2,r4,c4,rfl,hR2,hll2,hK2,hb⟩;have hB8:=Lib.hid (below_step hB7.out hb);have hK8:=Lib.hid (Kd.R_below hK7.out hb);clear hb;obtain ⟨DM,kM,rfl⟩:=Kd.R_slice hK2;have hun:=hR2.uniq hR.out;clear hR2;obtain ⟨e1,e2,e3⟩:=hun;subst e1;subst e2;subst e3;have hM8:=Lib.hid hK2;clear hK2 hll2))
        | (go_at_call 8;go_must (have g1:=Kd.R_reads' hK8.out;have g2_:=Kd.R_reads' hM8.out;refine (same24_calls (by omega) g1.2.2 g1.2.1 g2_.2.2 g2_.2.1).mono ?_;rintro e w9 ⟨rfl,hb⟩;have hB9:=Lib.hid (below_step hB8.out hb);have hK9:=Lib.hid (Kd.R_below hK8.out hb);clear hb g1 g2_ hK8 hM8))
        | (go_at_call 6;go_must (refine (gwrite_calls (tabs_below hT hB9.out) (Kd.R_reads' hK9.out).2.2 (by omega) (rd_range hRd.out htz.out)).mono ?_;rintro e wA ⟨⟨sb,rb,cb,rfl,hWb⟩,hb⟩;have hBA:=Lib.hid (below_step hB9.out hb);clear hb;obtain ⟨rfl,rfl⟩:=back_one hRd.out hWb;clear hWb)))
      go_ret
      exact ⟨rfl,hBA.out⟩
    replace hwk:=Lib.hid hwk
    obtain ⟨S,hS⟩ : ∃ S : ByteArray,(⟨(joinL log).toArray⟩ : ByteArray) = S:=⟨_,rfl⟩
    by_cases hsz : S.size ≤ 65536
    rotate_left
    · have d1 : decide ((S.size : Int) > 65536) = true:=decide_eq_true (by omega)
      have d2 : decide (65536 < (S.size : Int)) = true:=decide_eq_true (by omega)
      replace hS:=Lib.hid hS
      have tok1 : True:=trivial
      have tok2 : True:=trivial
      have tok3 : True:=trivial
      go_enter Tryz.func3,Tryz.ntmps3
      go_wp2_with (first
        | (go_at_call 5;go_must (refine (rebuslaw24_awake.calls hT).mono ?_;rintro e w1 ⟨rfl,hb⟩;have hB1:=Lib.hid hb;clear hb))
        | ((with_reducible refine gate_dst (N:=25) rfl ?_);go_must (refine Kd.R_lit kAct _ 35 ?hg (N:=25) ?hd (xs:=([] : List Act3)) (inner:=[]) (ok:=fun _=>True) (okp:=fun _=>True) ?hr ?hp (fun _ hk=>hk) trivial (Below.refl _ _) (Nat.le_refl _) (by simp) ?_;(case hd=>rfl);(case hg=>rfl);(case hr=>first | (go_simp;done) | (go_simp;rfl));(case hp=>exact (Reps.none _ _));intro v2 w2 ho2 hb hg_ hnew_;clear hg_ hnew_;have hB2:=Lib.hid hb;have hB2w:=Lib.hid (below_step hB1.out hb);replace ho2:=Lib.hid ho2;clear hb))
        | ((with_reducible refine gate_builtin (b:=.append) (xs:=#[.tmp 25,.tmp 26]) rfl ?_);go_must (at_builtin;refine Kd.R_append_rows kAct (w0:=w1) w1.heap.size rfl (.tmp 25) (.tmp 26) 22 35 (.agg #[.int .i64 0,.int .i64 0,.string ⟨#[]⟩]) 32 rfl Tryz.underlying22 act_info rfl (by decide) (by decide) v2 ([] : List Act3) log _ _ _ (fun _=>True) (fun _=>False) rfl rfl ?aO ?aR (fun _ _ h=>h) (fun _ h=>h.elim) ?aF ?aB ?aS ?aL ?_;(case aR=>exact law_acts hO hB2w.out);(case aB=>exact hB2.out);(case aF=>exact (fun _ _=>trivial));(case aO=>exact ho2.out);(case aS=>exact hB2.out.size);(case aL=>simp only [List.length_nil];omega);intro v3 w3 ho hb hg_ hat_;clear hg_ hat_;rw [List.nil_append] at ho;obtain ⟨D,k,rfl⟩:=Kd.R_slice ho;have hI3:=Lib.hid ho;have hB3:=Lib.hid (below_step hB1.out hb);clear hb ho))
        | (go_at_call 6;have tq:=tok1;go_must (clear tq tok1;refine (gwrite_calls (tabs_below hT hB3.out) (Kd.R_reads' hI3.out).2.2 hn hz.out).mono ?_;rintro e w4 ⟨⟨s,r,c0,rfl,hW⟩,hb⟩;have hB4:=Lib.hid (below_step hB3.out hb);have hI4:=Lib.hid (Kd.R_below hI3.out hb);clear hb;obtain ⟨es,rfl,rfl⟩:=wr_good hwk.out hW;rw [hS.out] at es;subst es;replace hW:=Lib.hid hW))
        | (go_at_call 7;go_must (refine (rwrite_calls (law_acts hO hB4.out) hc hn hz.out).mono ?_;rintro e w5 ⟨⟨s2,r2,c2,rfl,hW2⟩,hb⟩;have hB5:=Lib.hid (below_step hB4.out hb);have hI5:=Lib.hid (Kd.R_below hI4.out hb);have hun:=hW2.uniq hW.out;clear hb hW2;obtain ⟨e1,e2,e3⟩:=hun;subst e1;subst e2;subst e3))
        | (go_at_call 8;have tq:=tok2;go_must (clear tq tok2;have g1:=Kd.R_reads' hI5.out;refine (same24_calls hn g1.2.2 g1.2.1 (law_acts hO hB5.out) hc).mono ?_;rintro e w6 ⟨rfl,hb⟩;have hB6:=Lib.hid (below_step hB5.out hb);clear hb g1 hI5 hI4 hI3))
        | (go_at_call 9;have tq:=tok3;go_must (clear tq tok3;refine (gread_calls (tabs_below hT hB6.out) (errt_below hE hB6.out)).mono ?_;rintro e w7 ⟨u,l,r3,c3,rfl,hR,hll,hK,hb⟩;have hB7:=Lib.hid (below_step hB6.out hb);clear hb;obtain ⟨DL,kL,rfl⟩:=Kd.R_slice hK;have hK7:=Lib.hid hK;clear hK;obtain ⟨rfl,rfl,hRd⟩:=rd_good hok.out hR;replace hRd:=Lib.hid hRd;replace hR:=Lib.hid hR))
        | (go_at_call 10;go_must (refine rread_calls.mono ?_;rintro e w8 ⟨u2,l2,r4,c4,rfl,hR2,hll2,hK2,hb⟩;have hB8:=Lib.hid (below_step hB7.out hb);have hK8:=Lib.hid (Kd.R_below hK7.out hb);clear hb;obtain ⟨DM,kM,rfl⟩:=Kd.R_slice hK2;have hun:=hR2.uniq hR.out;clear hR2;obtain ⟨e1,e2,e3⟩:=hun;subst e1;subst e2;subst e3;have hM8:=Lib.hid hK2;clear hK2 hll2))
        | (go_at_call 8;go_must (have g1:=Kd.R_reads' hK8.out;have g2_:=Kd.R_reads' hM8.out;refine (same24_calls (by omega) g1.2.2 g1.2.1 g2_.2.2 g2_.2.1).mono ?_;rintro e w9 ⟨rfl,hb⟩;have hB9:=Lib.hid (below_step hB8.out hb);have hK9:=Lib.hid (Kd.R_below hK8.out hb);clear hb g1 g2_ hK8 hM8))
        | (go_at_call 6;go_must (refine (gwrite_calls (tabs_below hT hB9.out) (Kd.R_reads' hK9.out).2.2 (by omega) (rd_range hRd.out htz.out)).mono ?_;rintro e wA ⟨⟨sb,rb,cb,rfl,hWb⟩,hb⟩;have hBA:=Lib.hid (below_step hB9.out hb);clear hb;obtain ⟨rfl,rfl⟩:=back_one hRd.out hWb;clear hWb)))
      go_ret
      exact ⟨rfl,hBA.out⟩
    have d1 : decide ((S.size : Int) > 65536) = false:=decide_eq_false (by omega)
    have d2 : decide (65536 < (S.size : Int)) = false:=decide_eq_false (by omega)
    replace hS:=Lib.hid hS
    have tok1 : True:=trivial
    have tok2 : True:=trivial
    have tok3 : True:=trivial
    go_enter Tryz.func3,Tryz.ntmps3
    go_wp2_with (first
      | (go_at_call 5;go_must (refine (rebuslaw24_awake.calls hT).mono ?_;rintro e w1 ⟨rfl,hb⟩;have hB1:=Lib.hid hb;clear hb))
      | ((with_reducible refine gate_dst (N:=25) rfl ?_);go_must (refine Kd.R_lit kAct _ 35 ?hg (N:=25) ?hd (xs:=([] : List Act3)) (inner:=[]) (ok:=fun _=>True) (okp:=fun _=>True) ?hr ?hp (fun _ hk=>hk) trivial (Below.refl _ _) (Nat.le_refl _) (by simp) ?_;(case hd=>rfl);(case hg=>rfl);(case hr=>first | (go_simp;done) | (go_simp;rfl));(case hp=>exact (Reps.none _ _));intro v2 w2 ho2 hb hg_ hnew_;clear hg_ hnew_;have hB2:=Lib.hid hb;have hB2w:=Lib.hid (below_step hB1.out hb);replace ho2:=Lib.hid ho2;clear hb))
      | ((with_reducible refine gate_builtin (b:=.append) (xs:=#[.tmp 25,.tmp 26]) rfl ?_);go_must (at_builtin;refine Kd.R_append_rows kAct (w0:=w1) w1.heap.size rfl (.tmp 25) (.tmp 26) 22 35 (.agg #[.int .i64 0,.int .i64 0,.string ⟨#[]⟩]) 32 rfl Tryz.underlying22 act_info rfl (by decide) (by decide) v2 ([] : List Act3) log _ _ _ (fun _=>True) (fun _=>False) rfl rfl ?aO ?aR (fun _ _ h=>h) (fun _ h=>h.elim) ?aF ?aB ?aS ?aL ?_;(case aR=>exact law_acts hO hB2w.out);(case aB=>exact hB2.out);(case aF=>exact (fun _ _=>trivial));(case aO=>exact ho2.out);(case aS=>exact hB2.out.size);(case aL=>simp only [List.length_nil];omega);intro v3 w3 ho hb hg_ hat_;clear hg_ hat_;rw [List.nil_append] at ho;obtain ⟨D,k,rfl⟩:=Kd.R_slice ho;have hI3:=Lib.hid ho;have hB3:=Lib.hid (below_step hB1.out hb);clear hb ho))
      | (go_at_call 6;have tq:=tok1;go_must (clear tq tok1;refine (gwrite_calls (tabs_below hT hB3.out) (Kd.R_reads' hI3.out).2.2 hn hz.out).mono ?_;rintro e w4 ⟨⟨s,r,c0,rfl,hW⟩,hb⟩;have hB4:=Lib.hid (below_step hB3.out hb);have hI4:=Lib.hid (Kd.R_below hI3.out hb);clear hb;obtain ⟨es,rfl,rfl⟩:=wr_good hwk.out hW;rw [hS.out] at es;subst es;replace hW:=Lib.hid hW))
      | (go_at_call 7;go_must (refine (rwrite_calls (law_acts hO hB4.out) hc hn hz.out).mono ?_;rintro e w5 ⟨⟨s2,r2,c2,rfl,hW2⟩,hb⟩;have hB5:=Lib.hid (below_step hB4.out hb);have hI5:=Lib.hid (Kd.R_below hI4.out hb);have hun:=hW2.uniq hW.out;clear hb hW2;obtain ⟨e1,e2,e3⟩:=hun;subst e1;subst e2;subst e3))
      | (go_at_call 8;have tq:=tok2;go_must (clear tq tok2;have g1:=Kd.R_reads' hI5.out;refine (same24_calls hn g1.2.2 g1.2.1 (law_acts hO hB5.out) hc).mono ?_;rintro e w6 ⟨rfl,hb⟩;have hB6:=Lib.hid (below_step hB5.out hb);clear hb g1 hI5 hI4 hI3))
      | (go_at_call 9;have tq:=tok3;go_must (clear tq tok3;refine (gread_calls (tabs_below hT hB6.out) (errt_below hE hB6.out)).mono ?_;rintro e w7 ⟨u,l,r3,c3,rfl,hR,hll,hK,hb⟩;have hB7:=Lib.hid (below_step hB6.out hb);clear hb;obtain ⟨DL,kL,rfl⟩:=Kd.R_slice hK;have hK7:=Lib.hid hK;clear hK;obtain ⟨rfl,rfl,hRd⟩:=rd_good hok.out hR;replace hRd:=Lib.hid hRd;replace hR:=Lib.hid hR))
      | (go_at_call 10;go_must (refine rread_calls.mono ?_;rintro e w8 ⟨u2,l2,r4,c4,rfl,hR2,hll2,hK2,hb⟩;have hB8:=Lib.hid (below_step hB7.out hb);have hK8:=Lib.hid (Kd.R_below hK7.out hb);clear hb;obtain ⟨DM,kM,rfl⟩:=Kd.R_slice hK2;have hun:=hR2.uniq hR.out;clear hR2;obtain ⟨e1,e2,e3⟩:=hun;subst e1;subst e2;subst e3;have hM8:=Lib.hid hK2;clear hK2 hll2))
      | (go_at_call 8;go_must (have g1:=Kd.R_reads' hK8.out;have g2_:=Kd.R_reads' hM8.out;refine (same24_calls (by omega) g1.2.2 g1.2.1 g2_.2.2 g2_.2.1).mono ?_;rintro e w9 ⟨rfl,hb⟩;have hB9:=Lib.hid (below_step hB8.out hb);have hK9:=Lib.hid (Kd.R_below hK8.out hb);clear hb g1 g2_ hK8 hM8))
      | (go_at_call 6;go_must (refine (gwrite_calls (tabs_below hT hB9.out) (Kd.R_reads' hK9.out).2.2 (by omega) (rd_range hRd.out htz.out)).mono ?_;rintro e wA ⟨⟨sb,rb,cb,rfl,hWb⟩,hb⟩;have hBA:=Lib.hid (below_step hB9.out hb);clear hb;obtain ⟨rfl,rfl⟩:=back_one hRd.out hWb;clear hWb)))
    go_loopw [109] (fun v109 wr=>∃ (i : Nat) (q : Int),v109 = .int .i64 q ∧ Hid (q = i ∧ i ≤ log.length) ∧ Hid (∀ a ∈ log.take i,a.f1 ≤ 999999999) ∧ Hid (Below w.heap.size w wr)) (fun v109 _=>log.length - (intOf v109).toNat)
    case atStart=>exact ⟨0,0,rfl,Lib.hid ⟨rfl,Nat.zero_le _⟩,Lib.hid (fun a h=>by cases h),hBA⟩
    case round =>
      obtain ⟨i,q,rfl,hq,hg,hBr⟩:=hrel
      have hq0 : 0 ≤ q:=by have:=hq.out;omega
      by_cases hlt : i < log.length
      · have hq1 : q < (log.length : Int):=by have:=hq.out;omega
        have hq3 : q < 1048576:=by omega
        obtain ⟨ad,eA,z0,z1,z2⟩:=at_T35 (law_acts hO hBr.out) q hq0 hq1
        cases eA
        obtain ⟨a,ha⟩ : ∃ a,rd_T35 log q = a:=⟨_,rfl⟩
        have hai : acN log i = a:=by rw [← ha];unfold acN rd_T35;rw [hq.out.1,Int.toNat_natCast]
        have htk : log.take (i + 1) = log.take i ++ [a]:=by rw [← hai];exact (take_snoc _ hlt).symm
        rw [ha] at z0 z1 z2
        clear ha hai
        have hY:=box1 wr (.cells #[.int .i64 a.f0,.int .i64 a.f1,.string a.f2] 35)
        have y0:=cells3 hY.1
        have hBY:=Lib.hid (below_step hBr.out hY.2)
        replace hY:=Lib.hid hY
        replace hlt:=Lib.hid hlt
        replace htk:=Lib.hid htk
        by_cases hbig : a.f1 > 999999999
        · have d3 : decide (a.f1 > 999999999) = true:=decide_eq_true hbig
          have d4 : decide (999999999 < a.f1) = true:=decide_eq_true hbig
          go_wp2
          go_ret
          exact ⟨rfl,hBY.out⟩
        · have d3 : decide (a.f1 > 999999999) = false:=decide_eq_false hbig
          have d4 : decide (999999999 < a.f1) = false:=decide_eq_false hbig
          replace hbig:=Lib.hid hbig
          go_wp2
          refine ⟨⟨i + 1,q + 1,rfl,Lib.hid ⟨by have:=hq.out;omega,hlt.out⟩,Lib.hid (fun b hb=>?_),hBY⟩,?_⟩
          · rw [htk.out] at hb
            rcases List.mem_append.1 hb with hb | hb
            · exact hg.out b hb
            · rw [List.mem_singleton.1 hb];have:=hbig.out;omega
          · simp only [intOf];have:=hq.out;have:=hlt.out;omega
      · have hge : ¬ q < (log.length : Int):=by have:=hq.out;omega
        have hi : log.take i = log:=List.take_of_length_le (by omega)
        have hfa:=Lib.hid (show ∀ a ∈ log,a.f1 ≤ 999999999 by have h:=hg.out;rwa [hi] at h)
        have hBw:=hBr
        clear hi
        go_wp2_with (first
          | (go_at_call 9;go_must (refine (gread_calls (tabs_below hT hBw.out) (errt_below hE hBw.out)).mono ?_;rintro e wC ⟨u,lz,r3,cz,rfl,hR,hllz,hK,hb⟩;have hBC:=Lib.hid (below_step hBw.out hb);clear hb;obtain ⟨DZ,kZ,rfl⟩:=Kd.R_slice hK;obtain ⟨rfl,rfl⟩:=back_two hW.out hsz hfa.out hR;have hKC:=Lib.hid hK;clear hK hR))
          | (go_at_call 8;go_must (have g1:=Kd.R_reads' hKC.out;refine (same24_calls hn g1.2.2 g1.2.1 (law_acts hO hBC.out) hc).mono ?_;rintro e wD ⟨rfl,hb⟩;have hBD:=Lib.hid (below_step hBC.out hb);clear hb g1)))
        go_ret
        exact ⟨rfl,hBD.out⟩
  · replace hok:=Lib.hid hok
    by_cases hwk : ∀ a ∈ log,goodA a = true
    rotate_left
    · replace hwk:=Lib.hid hwk
      have tok1 : True:=trivial
      have tok2 : True:=trivial
      have tok3 : True:=trivial
      go_enter Tryz.func3,Tryz.ntmps3
      go_wp2_with (first
        | (go_at_call 5;go_must (refine (rebuslaw24_awake.calls hT).mono ?_;rintro e w1 ⟨rfl,hb⟩;have hB1:=Lib.hid hb;clear hb))
        | ((with_reducible refine gate_dst (N:=25) rfl ?_);go_must (refine Kd.R_lit kAct _ 35 ?hg (N:=25) ?hd (xs:=([] : List Act3)) (inner:=[]) (ok:=fun _=>True) (okp:=fun _=>True) ?hr ?hp (fun _ hk=>hk) trivial (Below.refl _ _) (Nat.le_refl _) (by simp) ?_;(case hd=>rfl);(case hg=>rfl);(case hr=>first | (go_simp;done) | (go_simp;rfl));(case hp=>exact (Reps.none _ _));intro v2 w2 ho2 hb hg_ hnew_;clear hg_ hnew_;have hB2:=Lib.hid hb;have hB2w:=Lib.hid (below_step hB1.out hb);replace ho2:=Lib.hid ho2;clear hb))
        | ((with_reducible refine gate_builtin (b:=.append) (xs:=#[.tmp 25,.tmp 26]) rfl ?_);go_must (at_builtin;refine Kd.R_append_rows kAct (w0:=w1) w1.heap.size rfl (.tmp 25) (.tmp 26) 22 35 (.agg #[.int .i64 0,.int .i64 0,.string ⟨#[]⟩]) 32 rfl Tryz.underlying22 act_info rfl (by decide) (by decide) v2 ([] : List Act3) log _ _ _ (fun _=>True) (fun _=>False) rfl rfl ?aO ?aR (fun _ _ h=>h) (fun _ h=>h.elim) ?aF ?aB ?aS ?aL ?_;(case aR=>exact law_acts hO hB2w.out);(case aB=>exact hB2.out);(case aF=>exact (fun _ _=>trivial));(case aO=>exact ho2.out);(case aS=>exact hB2.out.size);(case aL=>simp only [List.length_nil];omega);intro v3 w3 ho hb hg_ hat_;clear hg_ hat_;rw [List.nil_append] at ho;obtain ⟨D,k,rfl⟩:=Kd.R_slice ho;have hI3:=Lib.hid ho;have hB3:=Lib.hid (below_step hB1.out hb);clear hb ho))
        | (go_at_call 6;have tq:=tok1;go_must (clear tq tok1;refine (gwrite_calls (tabs_below hT hB3.out) (Kd.R_reads' hI3.out).2.2 hn hz.out).mono ?_;rintro e w4 ⟨⟨s,r,c0,rfl,hW⟩,hb⟩;have hB4:=Lib.hid (below_step hB3.out hb);have hI4:=Lib.hid (Kd.R_below hI3.out hb);clear hb;obtain rfl:=wr_bad hwk.out hW;replace hW:=Lib.hid hW))
        | (go_at_call 7;go_must (refine (rwrite_calls (law_acts hO hB4.out) hc hn hz.out).mono ?_;rintro e w5 ⟨⟨s2,r2,c2,rfl,hW2⟩,hb⟩;have hB5:=Lib.hid (below_step hB4.out hb);have hI5:=Lib.hid (Kd.R_below hI4.out hb);have hun:=hW2.uniq hW.out;clear hb hW2;obtain ⟨e1,e2,e3⟩:=hun;subst e1;subst e2;subst e3))
        | (go_at_call 8;have tq:=tok2;go_must (clear tq tok2;have g1:=Kd.R_reads' hI5.out;refine (same24_calls hn g1.2.2 g1.2.1 (law_acts hO hB5.out) hc).mono ?_;rintro e w6 ⟨rfl,hb⟩;have hB6:=Lib.hid (below_step hB5.out hb);clear hb g1 hI5 hI4 hI3))
        | (go_at_call 9;have tq:=tok3;go_must (clear tq tok3;refine (gread_calls (tabs_below hT hB6.out) (errt_below hE hB6.out)).mono ?_;rintro e w7 ⟨u,l,r3,c3,rfl,hR,hll,hK,hb⟩;have hB7:=Lib.hid (below_step hB6.out hb);clear hb;obtain ⟨DL,kL,rfl⟩:=Kd.R_slice hK;have hK7:=Lib.hid hK;clear hK;have c30:=rd_bad hok.out hR;replace hR:=Lib.hid hR))
        | (go_at_call 10;go_must (refine rread_calls.mono ?_;rintro e w8 ⟨u2,l2,r4,c4,rfl,hR2,hll2,hK2,hb⟩;have hB8:=Lib.hid (below_step hB7.out hb);have hK8:=Lib.hid (Kd.R_below hK7.out hb);clear hb;obtain ⟨DM,kM,rfl⟩:=Kd.R_slice hK2;have hun:=hR2.uniq hR.out;clear hR2;obtain ⟨e1,e2,e3⟩:=hun;subst e1;subst e2;subst e3;have hM8:=Lib.hid hK2;clear hK2 hll2))
        | (go_at_call 8;go_must (have g1:=Kd.R_reads' hK8.out;have g2_:=Kd.R_reads' hM8.out;refine (same24_calls (by omega) g1.2.2 g1.2.1 g2_.2.2 g2_.2.1).mono ?_;rintro e w9 ⟨rfl,hb⟩;have hB9:=Lib.hid (below_step hB8.out hb);have hK9:=Lib.hid (Kd.R_below hK8.out hb);clear hb g1 g2_ hK8 hM8)))
      go_ret
      exact ⟨rfl,hB9.out⟩
    replace hwk:=Lib.hid hwk
    obtain ⟨S,hS⟩ : ∃ S : ByteArray,(⟨(joinL log).toArray⟩ : ByteArray) = S:=⟨_,rfl⟩
    by_cases hsz : S.size ≤ 65536
    rotate_left
    · have d1 : decide ((S.size : Int) > 65536) = true:=decide_eq_true (by omega)
      have d2 : decide (65536 < (S.size : Int)) = true:=decide_eq_true (by omega)
      replace hS:=Lib.hid hS
      have tok1 : True:=trivial
      have tok2 : True:=trivial
      have tok3 : True:=trivial
      go_enter Tryz.func3,Tryz.ntmps3
      go_wp2_with (first
        | (go_at_call 5;go_must (refine (rebuslaw24_awake.calls hT).mono ?_;rintro e w1 ⟨rfl,hb⟩;have hB1:=Lib.hid hb;clear hb))
        | ((with_reducible refine gate_dst (N:=25) rfl ?_);go_must (refine Kd.R_lit kAct _ 35 ?hg (N:=25) ?hd (xs:=([] : List Act3)) (inner:=[]) (ok:=fun _=>True) (okp:=fun _=>True) ?hr ?hp (fun _ hk=>hk) trivial (Below.refl _ _) (Nat.le_refl _) (by simp) ?_;(case hd=>rfl);(case hg=>rfl);(case hr=>first | (go_simp;done) | (go_simp;rfl));(case hp=>exact (Reps.none _ _));intro v2 w2 ho2 hb hg_ hnew_;clear hg_ hnew_;have hB2:=Lib.hid hb;have hB2w:=Lib.hid (below_step hB1.out hb);replace ho2:=Lib.hid ho2;clear hb))
        | ((with_reducible refine gate_builtin (b:=.append) (xs:=#[.tmp 25,.tmp 26]) rfl ?_);go_must (at_builtin;refine Kd.R_append_rows kAct (w0:=w1) w1.heap.size rfl (.tmp 25) (.tmp 26) 22 35 (.agg #[.int .i64 0,.int .i64 0,.string ⟨#[]⟩]) 32 rfl Tryz.underlying22 act_info rfl (by decide) (by decide) v2 ([] : List Act3) log _ _ _ (fun _=>True) (fun _=>False) rfl rfl ?aO ?aR (fun _ _ h=>h) (fun _ h=>h.elim) ?aF ?aB ?aS ?aL ?_;(case aR=>exact law_acts hO hB2w.out);(case aB=>exact hB2.out);(case aF=>exact (fun _ _=>trivial));(case aO=>exact ho2.out);(case aS=>exact hB2.out.size);(case aL=>simp only [List.length_nil];omega);intro v3 w3 ho hb hg_ hat_;clear hg_ hat_;rw [List.nil_append] at ho;obtain ⟨D,k,rfl⟩:=Kd.R_slice ho;have hI3:=Lib.hid ho;have hB3:=Lib.hid (below_step hB1.out hb);clear hb ho))
        | (go_at_call 6;have tq:=tok1;go_must (clear tq tok1;refine (gwrite_calls (tabs_below hT hB3.out) (Kd.R_reads' hI3.out).2.2 hn hz.out).mono ?_;rintro e w4 ⟨⟨s,r,c0,rfl,hW⟩,hb⟩;have hB4:=Lib.hid (below_step hB3.out hb);have hI4:=Lib.hid (Kd.R_below hI3.out hb);clear hb;obtain ⟨es,rfl,rfl⟩:=wr_good hwk.out hW;rw [hS.out] at es;subst es;replace hW:=Lib.hid hW))
        | (go_at_call 7;go_must (refine (rwrite_calls (law_acts hO hB4.out) hc hn hz.out).mono ?_;rintro e w5 ⟨⟨s2,r2,c2,rfl,hW2⟩,hb⟩;have hB5:=Lib.hid (below_step hB4.out hb);have hI5:=Lib.hid (Kd.R_below hI4.out hb);have hun:=hW2.uniq hW.out;clear hb hW2;obtain ⟨e1,e2,e3⟩:=hun;subst e1;subst e2;subst e3))
        | (go_at_call 8;have tq:=tok2;go_must (clear tq tok2;have g1:=Kd.R_reads' hI5.out;refine (same24_calls hn g1.2.2 g1.2.1 (law_acts hO hB5.out) hc).mono ?_;rintro e w6 ⟨rfl,hb⟩;have hB6:=Lib.hid (below_step hB5.out hb);clear hb g1 hI5 hI4 hI3))
        | (go_at_call 9;have tq:=tok3;go_must (clear tq tok3;refine (gread_calls (tabs_below hT hB6.out) (errt_below hE hB6.out)).mono ?_;rintro e w7 ⟨u,l,r3,c3,rfl,hR,hll,hK,hb⟩;have hB7:=Lib.hid (below_step hB6.out hb);clear hb;obtain ⟨DL,kL,rfl⟩:=Kd.R_slice hK;have hK7:=Lib.hid hK;clear hK;have c30:=rd_bad hok.out hR;replace hR:=Lib.hid hR))
        | (go_at_call 10;go_must (refine rread_calls.mono ?_;rintro e w8 ⟨u2,l2,r4,c4,rfl,hR2,hll2,hK2,hb⟩;have hB8:=Lib.hid (below_step hB7.out hb);have hK8:=Lib.hid (Kd.R_below hK7.out hb);clear hb;obtain ⟨DM,kM,rfl⟩:=Kd.R_slice hK2;have hun:=hR2.uniq hR.out;clear hR2;obtain ⟨e1,e2,e3⟩:=hun;subst e1;subst e2;subst e3;have hM8:=Lib.hid hK2;clear hK2 hll2))
        | (go_at_call 8;go_must (have g1:=Kd.R_reads' hK8.out;have g2_:=Kd.R_reads' hM8.out;refine (same24_calls (by omega) g1.2.2 g1.2.1 g2_.2.2 g2_.2.1).mono ?_;rintro e w9 ⟨rfl,hb⟩;have hB9:=Lib.hid (below_step hB8.out hb);have hK9:=Lib.hid (Kd.R_below hK8.out hb);clear hb g1 g2_ hK8 hM8)))
      go_ret
      exact ⟨rfl,hB9.out⟩
    have d1 : decide ((S.size : Int) > 65536) = false:=decide_eq_false (by omega)
    have d2 : decide (65536 < (S.size : Int)) = false:=decide_eq_false (by omega)
    replace hS:=Lib.hid hS
    have tok1 : True:=trivial
    have tok2 : True:=trivial
    have tok3 : True:=trivial
    go_enter Tryz.func3,Tryz.ntmps3
    go_wp2_with (first
      | (go_at_call 5;go_must (refine (rebuslaw24_awake.calls hT).mono ?_;rintro e w1 ⟨rfl,hb⟩;have hB1:=Lib.hid hb;clear hb))
      | ((with_reducible refine gate_dst (N:=25) rfl ?_);go_must (refine Kd.R_lit kAct _ 35 ?hg (N:=25) ?hd (xs:=([] : List Act3)) (inner:=[]) (ok:=fun _=>True) (okp:=fun _=>True) ?hr ?hp (fun _ hk=>hk) trivial (Below.refl _ _) (Nat.le_refl _) (by simp) ?_;(case hd=>rfl);(case hg=>rfl);(case hr=>first | (go_simp;done) | (go_simp;rfl));(case hp=>exact (Reps.none _ _));intro v2 w2 ho2 hb hg_ hnew_;clear hg_ hnew_;have hB2:=Lib.hid hb;have hB2w:=Lib.hid (below_step hB1.out hb);replace ho2:=Lib.hid ho2;clear hb))
      | ((with_reducible refine gate_builtin (b:=.append) (xs:=#[.tmp 25,.tmp 26]) rfl ?_);go_must (at_builtin;refine Kd.R_append_rows kAct (w0:=w1) w1.heap.size rfl (.tmp 25) (.tmp 26) 22 35 (.agg #[.int .i64 0,.int .i64 0,.string ⟨#[]⟩]) 32 rfl Tryz.underlying22 act_info rfl (by decide) (by decide) v2 ([] : List Act3) log _ _ _ (fun _=>True) (fun _=>False) rfl rfl ?aO ?aR (fun _ _ h=>h) (fun _ h=>h.elim) ?aF ?aB ?aS ?aL ?_;(case aR=>exact law_acts hO hB2w.out);(case aB=>exact hB2.out);(case aF=>exact (fun _ _=>trivial));(case aO=>exact ho2.out);(case aS=>exact hB2.out.size);(case aL=>simp only [List.length_nil];omega);intro v3 w3 ho hb hg_ hat_;clear hg_ hat_;rw [List.nil_append] at ho;obtain ⟨D,k,rfl⟩:=Kd.R_slice ho;have hI3:=Lib.hid ho;have hB3:=Lib.hid (below_step hB1.out hb);clear hb ho))
      | (go_at_call 6;have tq:=tok1;go_must (clear tq tok1;refine (gwrite_calls (tabs_below hT hB3.out) (Kd.R_reads' hI3.out).2.2 hn hz.out).mono ?_;rintro e w4 ⟨⟨s,r,c0,rfl,hW⟩,hb⟩;have hB4:=Lib.hid (below_step hB3.out hb);have hI4:=Lib.hid (Kd.R_below hI3.out hb);clear hb;obtain ⟨es,rfl,rfl⟩:=wr_good hwk.out hW;rw [hS.out] at es;subst es;replace hW:=Lib.hid hW))
      | (go_at_call 7;go_must (refine (rwrite_calls (law_acts hO hB4.out) hc hn hz.out).mono ?_;rintro e w5 ⟨⟨s2,r2,c2,rfl,hW2⟩,hb⟩;have hB5:=Lib.hid (below_step hB4.out hb);have hI5:=Lib.hid (Kd.R_below hI4.out hb);have hun:=hW2.uniq hW.out;clear hb hW2;obtain ⟨e1,e2,e3⟩:=hun;subst e1;subst e2;subst e3))
      | (go_at_call 8;have tq:=tok2;go_must (clear tq tok2;have g1:=Kd.R_reads' hI5.out;refine (same24_calls hn g1.2.2 g1.2.1 (law_acts hO hB5.out) hc).mono ?_;rintro e w6 ⟨rfl,hb⟩;have hB6:=Lib.hid (below_step hB5.out hb);clear hb g1 hI5 hI4 hI3))
      | (go_at_call 9;have tq:=tok3;go_must (clear tq tok3;refine (gread_calls (tabs_below hT hB6.out) (errt_below hE hB6.out)).mono ?_;rintro e w7 ⟨u,l,r3,c3,rfl,hR,hll,hK,hb⟩;have hB7:=Lib.hid (below_step hB6.out hb);clear hb;obtain ⟨DL,kL,rfl⟩:=Kd.R_slice hK;have hK7:=Lib.hid hK;clear hK;have c30:=rd_bad hok.out hR;replace hR:=Lib.hid hR))
      | (go_at_call 10;go_must (refine rread_calls.mono ?_;rintro e w8 ⟨u2,l2,r4,c4,rfl,hR2,hll2,hK2,hb⟩;have hB8:=Lib.hid (below_step hB7.out hb);have hK8:=Lib.hid (Kd.R_below hK7.out hb);clear hb;obtain ⟨DM,kM,rfl⟩:=Kd.R_slice hK2;have hun:=hR2.uniq hR.out;clear hR2;obtain ⟨e1,e2,e3⟩:=hun;subst e1;subst e2;subst e3;have hM8:=Lib.hid hK2;clear hK2 hll2))
      | (go_at_call 8;go_must (have g1:=Kd.R_reads' hK8.out;have g2_:=Kd.R_reads' hM8.out;refine (same24_calls (by omega) g1.2.2 g1.2.1 g2_.2.2 g2_.2.1).mono ?_;rintro e w9 ⟨rfl,hb⟩;have hB9:=Lib.hid (below_step hB8.out hb);have hK9:=Lib.hid (Kd.R_below hK8.out hb);clear hb g1 g2_ hK8 hM8)))
    go_loopw [109] (fun v109 wr=>∃ (i : Nat) (q : Int),v109 = .int .i64 q ∧ Hid (q = i ∧ i ≤ log.length) ∧ Hid (∀ a ∈ log.take i,a.f1 ≤ 999999999) ∧ Hid (Below w.heap.size w wr)) (fun v109 _=>log.length - (intOf v109).toNat)
    case atStart=>exact ⟨0,0,rfl,Lib.hid ⟨rfl,Nat.zero_le _⟩,Lib.hid (fun a h=>by cases h),hB9⟩
    case round =>
      obtain ⟨i,q,rfl,hq,hg,hBr⟩:=hrel
      have hq0 : 0 ≤ q:=by have:=hq.out;omega
      by_cases hlt : i < log.length
      · have hq1 : q < (log.length : Int):=by have:=hq.out;omega
        have hq3 : q < 1048576:=by omega
        obtain ⟨ad,eA,z0,z1,z2⟩:=at_T35 (law_acts hO hBr.out) q hq0 hq1
        cases eA
        obtain ⟨a,ha⟩ : ∃ a,rd_T35 log q = a:=⟨_,rfl⟩
        have hai : acN log i = a:=by rw [← ha];unfold acN rd_T35;rw [hq.out.1,Int.toNat_natCast]
        have htk : log.take (i + 1) = log.take i ++ [a]:=by rw [← hai];exact (take_snoc _ hlt).symm
        rw [ha] at z0 z1 z2
        clear ha hai
        have hY:=box1 wr (.cells #[.int .i64 a.f0,.int .i64 a.f1,.string a.f2] 35)
        have y0:=cells3 hY.1
        have hBY:=Lib.hid (below_step hBr.out hY.2)
        replace hY:=Lib.hid hY
        replace hlt:=Lib.hid hlt
        replace htk:=Lib.hid htk
        by_cases hbig : a.f1 > 999999999
        · have d3 : decide (a.f1 > 999999999) = true:=decide_eq_true hbig
          have d4 : decide (999999999 < a.f1) = true:=decide_eq_true hbig
          go_wp2
          go_ret
          exact ⟨rfl,hBY.out⟩
        · have d3 : decide (a.f1 > 999999999) = false:=decide_eq_false hbig
          have d4 : decide (999999999 < a.f1) = false:=decide_eq_false hbig
          replace hbig:=Lib.hid hbig
          go_wp2
          refine ⟨⟨i + 1,q + 1,rfl,Lib.hid ⟨by have:=hq.out;omega,hlt.out⟩,Lib.hid (fun b hb=>?_),hBY⟩,?_⟩
          · rw [htk.out] at hb
            rcases List.mem_append.1 hb with hb | hb
            · exact hg.out b hb
            · rw [List.mem_singleton.1 hb];have:=hbig.out;omega
          · simp only [intOf];have:=hq.out;have:=hlt.out;omega
      · have hge : ¬ q < (log.length : Int):=by have:=hq.out;omega
        have hi : log.take i = log:=List.take_of_length_le (by omega)
        have hfa:=Lib.hid (show ∀ a ∈ log,a.f1 ≤ 999999999 by have h:=hg.out;rwa [hi] at h)
        have hBw:=hBr
        clear hi
        go_wp2_with (first
          | (go_at_call 9;go_must (refine (gread_calls (tabs_below hT hBw.out) (errt_below hE hBw.out)).mono ?_;rintro e wC ⟨u,lz,r3,cz,rfl,hR,hllz,hK,hb⟩;have hBC:=Lib.hid (below_step hBw.out hb);clear hb;obtain ⟨DZ,kZ,rfl⟩:=Kd.R_slice hK;obtain ⟨rfl,rfl⟩:=back_two hW.out hsz hfa.out hR;have hKC:=Lib.hid hK;clear hK hR))
          | (go_at_call 8;go_must (have g1:=Kd.R_reads' hKC.out;refine (same24_calls hn g1.2.2 g1.2.1 (law_acts hO hBC.out) hc).mono ?_;rintro e wD ⟨rfl,hb⟩;have hBD:=Lib.hid (below_step hBC.out hb);clear hb g1)))
        go_ret
        exact ⟨rfl,hBD.out⟩
end Go.Proofs.YtjopbfidjapmbaaGreatDoor.Q
end
