/- PART 9 OF A PROOF: Lean functions, and that the program computes them; written by hand and by a program. Not trusted: Lean checks it. -/
import Derived.Test.YtjopbfidjapmbaaGreatDoorTa3
import Derived.Test.YtjopbfidjapmbaaGreatDoorTa6
import Derived.Test.YtjopbfidjapmbaaGreatDoorTa7
import Derived.Test.YtjopbfidjapmbaaGreatDoorTa8
set_option linter.unusedVariables false
set_option linter.unusedSimpArgs false
section
namespace Go.Proofs.YtjopbfidjapmbaaGreatDoor.Q
open Go.RowKit Go.Proofs.YtjopbfidjapmbaaGreatDoorW.PrintWords Go.Proofs.YtjopbfidjapmbaaGreatDoorW.PrintLast Go.Proofs.YtjopbfidjapmbaaGreatDoorW.PrintMore
set_option linter.unusedVariables false
set_option linter.unusedSimpArgs false
open Go.Proofs.YtjopbfidjapmbaaGreatDoorS
structure PuzR (A2 : Option Addr) (c2 : Nat) (bl : List Bool) (A3 : Option Addr) (c3 : Nat) (ri : List Bool) (A4 : Option Addr) (c4 : Nat) (be : List Bool) (A5 : Option Addr) (c5 : Nat) (cells : List ByteArray) (A6 : Option Addr) (c6 : Nat) (clues : List ByteArray) (w : World) : Prop where
  r2 : Kd.C Kd.bool w A2 bl.length bl
  k2 : bl.length ≤ c2
  r3 : Kd.C Kd.bool w A3 ri.length ri
  k3 : ri.length ≤ c3
  r4 : Kd.C Kd.bool w A4 be.length be
  k4 : be.length ≤ c4
  r5 : Kd.C Kd.string w A5 cells.length cells
  k5 : cells.length ≤ c5
  r6 : Kd.C Kd.string w A6 clues.length clues
  k6 : clues.length ≤ c6
theorem PuzR.below {A2 : Option Addr} {c2 : Nat} {bl : List Bool} {A3 : Option Addr} {c3 : Nat} {ri : List Bool} {A4 : Option Addr} {c4 : Nat} {be : List Bool} {A5 : Option Addr} {c5 : Nat} {cells : List ByteArray} {A6 : Option Addr} {c6 : Nat} {clues : List ByteArray} {w w' : World} (h : PuzR A2 c2 bl A3 c3 ri A4 c4 be A5 c5 cells A6 c6 clues w) (hb : Below w.heap.size w w') : PuzR A2 c2 bl A3 c3 ri A4 c4 be A5 c5 cells A6 c6 clues w' :=
  ⟨Kd.C_below h.r2 hb,h.k2,Kd.C_below h.r3 hb,h.k3,Kd.C_below h.r4 hb,h.k4,Kd.C_below h.r5 hb,h.k5,Kd.C_below h.r6 hb,h.k6⟩
theorem PuzR.grid {H W : Int} {A2 : Option Addr} {c2 : Nat} {bl : List Bool} {A3 : Option Addr} {c3 : Nat} {ri : List Bool} {A4 : Option Addr} {c4 : Nat} {be : List Bool} {A5 : Option Addr} {c5 : Nat} {cells : List ByteArray} {A6 : Option Addr} {c6 : Nat} {clues : List ByteArray} {w : World} (h : PuzR A2 c2 bl A3 c3 ri A4 c4 be A5 c5 cells A6 c6 clues w) (hg : gcheck H W bl ri be = 0) : GridIs H W A2 c2 bl A3 c3 ri A4 c4 be w:=⟨h.r2,h.k2,h.r3,h.k3,h.r4,h.k4,hg⟩
structure ShtR (A7 : Option Addr) (c7 : Nat) (sc : List ByteArray) (A8 : Option Addr) (c8 : Nat) (ss : List Bool) (w : World) : Prop where
  r7 : Kd.C Kd.string w A7 sc.length sc
  k7 : sc.length ≤ c7
  r8 : Kd.C Kd.bool w A8 ss.length ss
  k8 : ss.length ≤ c8
theorem ShtR.below {A7 : Option Addr} {c7 : Nat} {sc : List ByteArray} {A8 : Option Addr} {c8 : Nat} {ss : List Bool} {w w' : World} (h : ShtR A7 c7 sc A8 c8 ss w) (hb : Below w.heap.size w w') : ShtR A7 c7 sc A8 c8 ss w' :=
  ⟨Kd.C_below h.r7 hb,h.k7,Kd.C_below h.r8 hb,h.k8⟩
structure PuzS (title : ByteArray) (cells clues : List ByteArray) : Prop where
  t : title.size ≤ 1048576
  s : Small cells
  c : Small clues
  l : cells.length ≤ 1048576
  m : clues.length ≤ 1048576
theorem pbad_step {bl : List Bool} {cells : List ByteArray} {n i : Nat} (hi : i < n) : pbad bl cells (n - i) i = (pbad1 bl cells i || pbad bl cells (n - (i + 1)) (i + 1)):=by
  obtain ⟨d,hd⟩ : ∃ d,n - i = d + 1:=⟨n - i - 1,by omega⟩
  rw [hd,show n - (i + 1) = d by omega]
  rfl
set_option maxHeartbeats 8000000 in
set_option maxRecDepth 1000000 in
theorem page_calls {title : ByteArray} {H W : Int} {A2 : Option Addr} {c2 : Nat} {bl : List Bool} {A3 : Option Addr} {c3 : Nat} {ri : List Bool} {A4 : Option Addr} {c4 : Nat} {be : List Bool} {A5 : Option Addr} {c5 : Nat} {cells : List ByteArray} {A6 : Option Addr} {c6 : Nat} {clues : List ByteArray} {w : World} (hT : Tabs w) (hP : PuzR A2 c2 bl A3 c3 ri A4 c4 be A5 c5 cells A6 c6 clues w) (hz : PuzS title cells clues) :
    Calls Tryz.prog 49 #[.agg #[.string title,.int .i64 H,.int .i64 W,.slice A2 bl.length c2,.slice A3 ri.length c3,.slice A4 be.length c4,.slice A5 cells.length c5,.slice A6 clues.length c6]] w fun e w'=>e = .returned (.int .i64 (pcheck title H W bl ri be cells clues)) ∧ Below w.heap.size w w':=by
  have hx:=box1 w (.cells #[.string title,.int .i64 H,.int .i64 W,.slice A2 bl.length c2,.slice A3 ri.length c3,.slice A4 be.length c4,.slice A5 cells.length c5,.slice A6 clues.length c6] 42)
  replace hx:=Lib.hid hx
  have hu27:=Tryz.underlying42
  have hu24:=Tryz.underlying39
  by_cases hg : gcheck H W bl ri be = 0
  · have hgk:=grid_Check_eq H W bl ri be (bl.length + 3) (Nat.le_refl _)
    rw [hg] at hgk
    replace hgk:=Lib.hid hgk
    have tg0 : ((0 : Int) != 0) = false:=rfl
    have hz0:=hz
    replace hz:=Lib.hid hz
    by_cases hs : cells.length = bl.length
    · have t1 : ((cells.length : Int) != (bl.length : Int)) = false:=by rw [hs];simp
      have t1b : (cells.length != bl.length) = false:=by rw [hs];simp
      have hv : pcheck title H W bl ri be cells clues = (if pbad bl cells cells.length 0 then 33 else if clues.length = (slotsOf H W bl ri be).length then (if (clues ++ [title]).all uline then 0 else 221) else 160):=by unfold pcheck;rw [if_pos hg,if_pos hs]
      rw [hv]
      clear hv
      obtain ⟨V,hV0⟩ : ∃ V,(if pbad bl cells cells.length 0 then (33 : Int) else if clues.length = (slotsOf H W bl ri be).length then (if (clues ++ [title]).all uline then 0 else 221) else 160) = V:=⟨_,rfl⟩
      rw [hV0]
      replace hV0:=Lib.hid hV0
      replace hg:=Lib.hid hg
      replace hs:=Lib.hid hs
      go_enter Tryz.func49,Tryz.ntmps49
      go_wp2_with (first
        | (go_at_call 59;go_must (have hPx:=hP.below hx.out.2;refine (grid_Check.calls _ _ _ _ _ _ _ _ _ _ _ _ _ _ hPx.r2 hPx.k2 hPx.r3 hPx.k3 hPx.r4 hPx.k4 hgk.out).mono ?_;clear hPx;rintro e w3 ⟨rfl,hb3⟩;have hB3:=Lib.hid (below_step hx.out.2 hb3);have bP:=Lib.hid (blk_below hx.out.1 hb3);have p3:=cells8 bP.out;clear hb3)))
      go_loopw [25] (fun v4 wr=>∃ (i : Nat) (q : Int),v4 = .int .i64 q ∧ Hid (q = i ∧ i ≤ cells.length) ∧ Hid (pbad bl cells cells.length 0 = pbad bl cells (cells.length - i) i) ∧ Hid (wr.heap[w.heap.size]? = some (.cells #[.string title,.int .i64 H,.int .i64 W,.slice A2 bl.length c2,.slice A3 ri.length c3,.slice A4 be.length c4,.slice A5 cells.length c5,.slice A6 clues.length c6] 42 (0,0))) ∧ Hid (Below w.heap.size w wr)) (fun v4 _=>cells.length - (intOf v4).toNat)
      case atStart=>exact ⟨0,0,rfl,Lib.hid ⟨rfl,Nat.zero_le _⟩,Lib.hid rfl,bP,hB3⟩
      case round =>
        clear hB3 bP p3 t1 t1b
        obtain ⟨i,q,rfl,hq,hpb,bP,hB⟩:=hrel
        have p4:=cells8 bP.out
        have y4:=blk_lt bP.out
        by_cases hlt : i < cells.length
        · have hq0 : 0 ≤ q:=by have:=hq.out;omega
          have hq1 : q < (cells.length : Int):=by have:=hq.out;omega
          have hq2 : q < (bl.length : Int):=by have:=hs.out;omega
          have hq3 : q < 1048576:=by have:=hz.out.l;omega
          obtain ⟨ad,eA,zx⟩:=Kd.at_string (hP.below hB.out).r5 q hq0 hq1
          obtain ⟨ad2,eA2,zb⟩:=Kd.at_bool (hP.below hB.out).r2 q hq0 hq2
          cases eA
          cases eA2
          obtain ⟨xa,hxa⟩ : ∃ x,rdOf ByteArray.empty cells q = x:=⟨_,rfl⟩
          obtain ⟨bb,hbb⟩ : ∃ x,rdOf false bl q = x:=⟨_,rfl⟩
          have hxs : xa.size ≤ 1048576:=by rw [← hxa,hq.out.1];exact hz.out.s.rd hlt
          have hst:=pbad_step (bl:=bl) (cells:=cells) hlt
          have e1 : pbad1 bl cells i = (!xa.toList.isEmpty && (bb || !uletter xa)):=by unfold pbad1;rw [← hq.out.1,hxa,hbb]
          rw [e1] at hst
          rw [hxa] at zx
          rw [hbb] at zb
          clear hxa hbb e1
          by_cases hne : xa.toList = []
          · have te : xa.toList.isEmpty = true:=by rw [hne];rfl
            rw [te] at hst
            have hE : pbad bl cells cells.length 0 = pbad bl cells (cells.length - (i + 1)) (i + 1):=by rw [hpb.out,hst];rfl
            replace hE:=Lib.hid hE
            replace hlt:=Lib.hid hlt
            clear hst hne hpb
            go_wp2
            refine ⟨⟨i + 1,q + 1,rfl,Lib.hid ⟨by have:=hq.out;omega,hlt.out⟩,hE,bP,hB⟩,?_⟩
            simp only [intOf];have:=hq.out;have:=hlt.out;omega
          · have te : xa.toList.isEmpty = false:=toList_nil.2 hne
            rw [te] at hst
            clear hne
            cases bb with
            | true =>
              have hE : pbad bl cells cells.length 0 = true:=by rw [hpb.out,hst];rfl
              rw [hE] at hpb
              replace hE:=Lib.hid hE
              clear hst hpb
              go_wp2
              go_ret
              exact ⟨by rw [← hV0.out,hE.out];rfl,hB.out⟩
            | false =>
              cases hle : uletter xa with
              | false =>
                have hE : pbad bl cells cells.length 0 = true:=by rw [hpb.out,hst,hle];rfl
                replace hE:=Lib.hid hE
                replace hle:=Lib.hid hle
                clear hst hpb
                go_wp2_with (first
                  | (go_at_call 60;go_must (refine (page_letter.calls xa _ _ (by unfold page_letter.f;rw [if_pos (by omega),hle.out])).mono ?_;rintro e w5 ⟨rfl,hb5⟩)))
                go_ret
                exact ⟨by rw [← hV0.out,hE.out];rfl,below_step hB.out hb5⟩
              | true =>
                have hE : pbad bl cells cells.length 0 = pbad bl cells (cells.length - (i + 1)) (i + 1):=by rw [hpb.out,hst,hle];rfl
                replace hE:=Lib.hid hE
                replace hle:=Lib.hid hle
                replace hlt:=Lib.hid hlt
                clear hst hpb
                go_wp2_with (first
                  | (go_at_call 60;go_must (refine (page_letter.calls xa _ _ (by unfold page_letter.f;rw [if_pos (by omega),hle.out])).mono ?_;rintro e w5 ⟨rfl,hb5⟩)))
                refine ⟨⟨i + 1,q + 1,rfl,Lib.hid ⟨by have:=hq.out;omega,hlt.out⟩,hE,Lib.hid (blk_below bP.out hb5),Lib.hid (below_step hB.out hb5)⟩,?_⟩
                simp only [intOf];have:=hq.out;have:=hlt.out;omega
        · have hge : ¬ q < (cells.length : Int):=by have:=hq.out;omega
          have hE : pbad bl cells cells.length 0 = false:=by rw [hpb.out,show cells.length - i = 0 by have:=hq.out;omega];rfl
          clear hpb
          obtain ⟨L,hL⟩ : ∃ L,slotsOf H W bl ri be = L:=⟨_,rfl⟩
          replace hE:=Lib.hid hE
          replace hL:=Lib.hid hL
          obtain ⟨q0,q1,q2,q3,q4,q5,q6,q7⟩:=p4
          go_wp2
          refine wp_region_noPanic ?_
          refine wp_region_held_drew (S:=(fun w'=>w'.cell? ⟨w.heap.size,1,none⟩ = some (.int .i64 H) ∧ w'.cell? ⟨w.heap.size,2,none⟩ = some (.int .i64 W) ∧ w'.cell? ⟨w.heap.size,3,none⟩ = some (.slice A2 bl.length c2) ∧ w'.cell? ⟨w.heap.size,4,none⟩ = some (.slice A3 ri.length c3) ∧ w'.cell? ⟨w.heap.size,5,none⟩ = some (.slice A4 be.length c4) ∧ w'.cell? ⟨w.heap.size,7,none⟩ = some (.slice A6 clues.length c6))) (by kernel_rfl) ?s1 (fun hHeld=>?_)
          case s1=>((try dsimp only);go_keep)
          refine wpAnyH_take (i:=0) (oi:=?q0oi) (v:=?q0v) ?q0ho ?q0k1 ?q0k2 ?q0k3 (fun _ _ _ h=>h) (Or.inl ⟨?q0kw,?q0hy⟩) hHeld ?q0rest
          case q0ho=>exact at_ops0 _ _
          case q0k1=>kernel_rfl
          case q0k2=>kernel_rfl
          case q0k3=>kernel_rfl
          case q0kw=>rfl
          case q0hy=>(intro w9 hS9;(try dsimp only at hS9);go_simp;try with_reducible rfl)
          try simp only [Act.put,List.setIfInBounds_toArray,List.set_cons_zero,List.set_cons_succ]
          refine wpAnyH_take (i:=1) (oi:=?q1oi) (v:=?q1v) ?q1ho ?q1k1 ?q1k2 ?q1k3 (fun _ _ _ h=>h) (Or.inl ⟨?q1kw,?q1hy⟩) hHeld ?q1rest
          case q1ho=>exact at_ops1 _ _ _
          case q1k1=>kernel_rfl
          case q1k2=>kernel_rfl
          case q1k3=>kernel_rfl
          case q1kw=>rfl
          case q1hy=>(intro w9 hS9;(try dsimp only at hS9);go_simp;try with_reducible rfl)
          try simp only [Act.put,List.setIfInBounds_toArray,List.set_cons_zero,List.set_cons_succ]
          refine wpAnyH_take (i:=2) (oi:=?q2oi) (v:=?q2v) ?q2ho ?q2k1 ?q2k2 ?q2k3 (fun _ _ _ h=>h) (Or.inl ⟨?q2kw,?q2hy⟩) hHeld ?q2rest
          case q2ho=>exact at_ops2 _ _ _ _
          case q2k1=>kernel_rfl
          case q2k2=>kernel_rfl
          case q2k3=>kernel_rfl
          case q2kw=>rfl
          case q2hy=>(intro w9 hS9;(try dsimp only at hS9);go_simp;try with_reducible rfl)
          try simp only [Act.put,List.setIfInBounds_toArray,List.set_cons_zero,List.set_cons_succ]
          refine wpAnyH_take (i:=3) (oi:=?q3oi) (v:=?q3v) ?q3ho ?q3k1 ?q3k2 ?q3k3 (fun _ _ _ h=>h) (Or.inl ⟨?q3kw,?q3hy⟩) hHeld ?q3rest
          case q3ho=>exact at_ops3 _ _ _ _ _
          case q3k1=>kernel_rfl
          case q3k2=>kernel_rfl
          case q3k3=>kernel_rfl
          case q3kw=>rfl
          case q3hy=>(intro w9 hS9;(try dsimp only at hS9);go_simp;try with_reducible rfl)
          try simp only [Act.put,List.setIfInBounds_toArray,List.set_cons_zero,List.set_cons_succ]
          refine wpAnyH_take (i:=4) (oi:=?q4oi) (v:=?q4v) ?q4ho ?q4k1 ?q4k2 ?q4k3 (fun _ _ _ h=>h) (Or.inl ⟨?q4kw,?q4hy⟩) hHeld ?q4rest
          case q4ho=>exact at_ops4 _ _ _ _ _ _
          case q4k1=>kernel_rfl
          case q4k2=>kernel_rfl
          case q4k3=>kernel_rfl
          case q4kw=>rfl
          case q4hy=>(intro w9 hS9;(try dsimp only at hS9);go_simp;try with_reducible rfl)
          try simp only [Act.put,List.setIfInBounds_toArray,List.set_cons_zero,List.set_cons_succ]
          refine wpAnyH_ready (rs:=[5]) (by kernel_rfl) (by simp) ?_
          refine AllReadyH.cons (at_ops5 _ _ _ _ _ _ _) (fun K hK=>?_) AllReadyH.nil
          go_simp
          (go_at_call 61;have hPy:=hP.below (below_drew hB.out);refine (slots_List.calls _ _ _ _ _ _ _ _ _ _ _ _ _ hPy.r2 hPy.k2 hPy.r3 hPy.k3 hPy.r4 hPy.k4 (show slots_List.f H W bl ri be = some L by unfold slots_List.f;rw [hL.out])).mono ?_;clear hPy;rintro e w6 ⟨vL,rfl,hLr,hbL⟩;obtain ⟨AL,cL,rfl⟩:=Kd.S_slice hLr)
          refine hK.out _ _ ?r5 (fun hHeld=>?_)
          case r5=>exact ⟨pw_cell_below hbL q1,pw_cell_below hbL q2,pw_cell_below hbL q3,pw_cell_below hbL q4,pw_cell_below hbL q5,pw_cell_below hbL q7⟩
          clear hK K
          try simp only [Act.put,List.setIfInBounds_toArray,List.set_cons_zero,List.set_cons_succ]
          refine wpAnyH_take (i:=6) (oi:=?q6oi) (v:=?q6v) ?q6ho ?q6k1 ?q6k2 ?q6k3 (fun _ _ _ h=>h) (Or.inl ⟨?q6kw,?q6hy⟩) hHeld ?q6rest
          case q6ho=>exact at_ops6 _ _ _ _ _ _ _ _
          case q6k1=>kernel_rfl
          case q6k2=>kernel_rfl
          case q6k3=>kernel_rfl
          case q6kw=>rfl
          case q6hy=>(intro w9 hS9;(try dsimp only at hS9);go_simp;try with_reducible rfl)
          try simp only [Act.put,List.setIfInBounds_toArray,List.set_cons_zero,List.set_cons_succ]
          refine wpAnyH_take (i:=7) (oi:=?q7oi) (v:=?q7v) ?q7ho ?q7k1 ?q7k2 ?q7k3 (fun _ _ _ h=>h) (Or.inl ⟨?q7kw,?q7hy⟩) hHeld ?q7rest
          case q7ho=>exact at_ops7 _ _ _ _ _ _ _ _ _
          case q7k1=>kernel_rfl
          case q7k2=>kernel_rfl
          case q7k3=>kernel_rfl
          case q7kw=>rfl
          case q7hy=>(intro w9 hS9;(try dsimp only at hS9);go_simp;try with_reducible rfl)
          try simp only [Act.put,List.setIfInBounds_toArray,List.set_cons_zero,List.set_cons_succ]
          refine wpAnyH_done (by kernel_rfl) ?_ _
          refine NoPanic.normal ?_
          clear q0 q1 q2 q3 q4 q5 q6 q7
          have hB6:=Lib.hid (below_step (below_drew hB.out) hbL)
          have bP6:=Lib.hid (blk_below (blk_drew bP.out) hbL)
          have p6:=cells8 bP6.out
          clear hLr hbL
          by_cases hcl : clues.length = L.length
          · have t5 : ((clues.length : Int) != (L.length : Int)) = false:=by rw [hcl];simp
            have t5b : (clues.length != L.length) = false:=by rw [hcl];simp
            have hV : V = (if (clues ++ [title]).all uline then 0 else 221):=by
              rw [← hV0.out,hE.out,hL.out,if_pos hcl]
              rfl
            obtain ⟨l,hl⟩ : ∃ l,clues ++ [title] = l:=⟨_,rfl⟩
            rw [hl] at hV
            replace hl:=Lib.hid hl
            replace hV:=Lib.hid hV
            replace hcl:=Lib.hid hcl
            go_wp2
            refine start_ (n:=9) (S:=fun w'=>w'.cell? ⟨w.heap.size,0,none⟩ = some (.string title) ∧ w'.cell? ⟨w.heap.size,7,none⟩ = some (.slice A6 clues.length c6)) (ds:=[]) #[false,false,false,false,false,false,false,false,false] (by kernel_rfl) rfl rfl ⟨(blk_cell (blk_drew bP6.out) 0).trans rfl,(blk_cell (blk_drew bP6.out) 7).trans rfl⟩ (fun hHeld=>?_)
            have bP:=blk_drew bP6.out
            have hB:=below_drew hB6.out
            generalize w6.drew = w7 at bP hB hHeld ⊢
            have hcm:=hz0.m
            refine pure_ (i:=0) (N:=some 54) (v:=?_) (a':=?_) #[true,false,false,false,false,false,false,false,false] rfl rfl (by kernel_rfl) (fun _ _ _ h=>h) (Or.inl ⟨by rfl,?_⟩) ?_ ?_
            rotate_left
            · intro w';go_simp;try with_reducible rfl
            rotate_left
            · simp only [Act.put,List.setIfInBounds_toArray,List.set_cons_zero,List.set_cons_succ,i64_w,i32_w];rfl
            refine pure_ (i:=3) (N:=some 57) (v:=?_) (a':=?_) #[true,false,false,true,false,false,false,false,false] rfl rfl (by kernel_rfl) (fun _ _ _ h=>h) (Or.inl ⟨by rfl,?_⟩) ?_ ?_
            rotate_left
            · intro w';go_simp;try with_reducible rfl
            rotate_left
            · simp only [Act.put,List.setIfInBounds_toArray,List.set_cons_zero,List.set_cons_succ,i64_w,i32_w];rfl
            refine take_ (i:=1) (N:=some 55) (v:=?_) (a':=?_) #[true,true,false,true,false,false,false,false,false] rfl rfl (by kernel_rfl) (fun _ _ _ h=>h) (Or.inl ⟨by rfl,?_⟩) hHeld ?_ ?_
            rotate_left
            · intro w' s0;(try dsimp only at s0);go_simp;try with_reducible rfl
            rotate_left
            · simp only [Act.put,List.setIfInBounds_toArray,List.set_cons_zero,List.set_cons_succ,i64_w,i32_w];rfl
            refine take_ (i:=4) (N:=some 58) (v:=?_) (a':=?_) #[true,true,false,true,true,false,false,false,false] rfl rfl (by kernel_rfl) (fun _ _ _ h=>h) (Or.inl ⟨by rfl,?_⟩) hHeld ?_ ?_
            rotate_left
            · intro w' s0;(try dsimp only at s0);go_simp;try with_reducible rfl
            rotate_left
            · simp only [Act.put,List.setIfInBounds_toArray,List.set_cons_zero,List.set_cons_succ,i64_w,i32_w];rfl
            refine pure_ (i:=8) (N:=some 62) (v:=?_) (a':=?_) #[true,true,false,true,true,false,false,false,true] rfl rfl (by kernel_rfl) (fun _ _ _ h=>h) (Or.inl ⟨by rfl,?_⟩) ?_ ?_
            rotate_left
            · intro w';go_simp;try with_reducible rfl
            rotate_left
            · simp only [Act.put,List.setIfInBounds_toArray,List.set_cons_zero,List.set_cons_succ,i64_w,i32_w];rfl
            refine two_ (i:=2) (j:=5) (Ni:=some 56) (Nj:=some 59) #[true,true,true,true,true,false,false,false,true] #[true,true,false,true,true,true,false,false,true] rfl rfl rfl rfl (by kernel_rfl) (by decide) (by decide) (fun K hK=>?_) (fun K hK=>?_)
            · refine goes_ Tryz.func38 (by kernel_rfl) rfl #[.slice A6 clues.length c6] (by rfl) rfl rfl (by first | (go_simp;done) | (go_simp;rfl)) ?_
              refine (slices_Clone_string_string.calls _ _ clues clues _ (hP.below hB).r6 hP.k6 (by unfold slices_Clone_string_string.f;rw [if_pos (by omega)])).mono ?_
              rintro e _ ⟨v2,rfl,ho,hb⟩
              have RX:=Kd.R_lower ho (below_size hB)
              have bP:=blk_below bP hb
              have hB:=below_step hB hb
              clear ho hb
              obtain ⟨B2,b2,rfl⟩:=Kd.R_slice RX
              refine ⟨_,rfl,?_⟩
              refine hK.out _ _ ⟨(blk_cell bP 0).trans rfl,(blk_cell bP 7).trans rfl⟩ (fun hHeld=>?_)
              clear hK K
              refine norm_ (a':=?_) ?_ ?_
              rotate_left
              · show Act.put _ (some 56) _ = _
                simp only [Act.put,List.setIfInBounds_toArray,List.set_cons_zero,List.set_cons_succ,i64_w,i32_w]
                rfl
              refine one_ (i:=5) (N:=some 59) #[true,true,true,true,true,true,false,false,true] rfl rfl (by kernel_rfl) (by decide) (fun K hK=>?_)
              refine Kd.R_lit_step Kd.string _ 9 ?hg (N:=59) ?hd (xs:=([title] : List ByteArray)) (inner:=[.string title]) (ok:=fun _=>True) (okp:=fun _=>True) ?hr ?hp (fun _ hk=>hk) trivial (Below.refl _ _) (Nat.le_refl _) (by simp) ?_;(case hd=>rfl);(case hg=>rfl);(case hr=>first | (go_simp;done) | (go_simp;rfl));(case hp=>exact (Reps.one (show Kd.M Kd.string _ _ _ title [.string title] from rfl) (Reps.none _ _)))
              intro v5 _ ho hb _ _
              have RY:=Kd.R_lower ho (below_size hB)
              have RX:=Kd.R_below RX hb
              have bP:=blk_below bP hb
              have hB:=below_step hB hb
              clear ho hb
              obtain ⟨B5,b5,rfl⟩:=Kd.R_slice RY
              refine hK.out _ _ ⟨(blk_cell bP 0).trans rfl,(blk_cell bP 7).trans rfl⟩ (fun hHeld=>?_)
              clear hK K
              refine norm_ (a':=?_) ?_ ?_
              rotate_left
              · show Act.put _ (some 59) _ = _
                simp only [Act.put,List.setIfInBounds_toArray,List.set_cons_zero,List.set_cons_succ,i64_w,i32_w]
                rfl
              refine one_ (i:=6) (N:=some 60) #[true,true,true,true,true,true,true,false,true] rfl rfl (by kernel_rfl) (by decide) (fun K hK=>?_)
              refine Kd.R_append_rows_step Kd.string (w0:=w) w.heap.size (by rfl) (.tmp 56) (.tmp 59) 40 9 (.string ⟨#[]⟩) 16 rfl Tryz.underlying40 str_info rfl (by decide) (by decide) (.slice B2 clues.length b2) clues [title] _ _ _ (fun _=>True) (fun _=>False) rfl rfl ?aO ?aR (fun _ _ h=>h) (fun _ h=>h.elim) ?aF ?aB ?aS ?aL ?_
              (case aR=>exact (Kd.R_reads' RY).2.2)
              (case aB=>exact hB)
              (case aF=>exact (fun _ _=>trivial))
              (case aO=>exact RX)
              (case aS=>exact below_size hB)
              (case aL=>have:=hz0.m;simp only [List.length_singleton];omega)
              intro v6 w9 ho hb hg _
              rw [hl.out] at ho
              have bP:=blk_grown bP hg (Kd.R_ne RX bP (by decide))
              clear RX RY hg
              obtain ⟨B6,b6,rfl⟩:=Kd.R_slice ho
              refine hK.out _ _ ⟨(blk_cell bP 0).trans rfl,(blk_cell bP 7).trans rfl⟩ (fun hHeld=>?_)
              clear hK K
              refine norm_ (a':=?_) ?_ ?_
              rotate_left
              · show Act.put _ (some 60) _ = _
                simp only [Act.put,List.setIfInBounds_toArray,List.set_cons_zero,List.set_cons_succ,i64_w,i32_w]
                rfl
              refine pure_ (i:=7) (N:=some 61) (v:=?_) (a':=?_) #[true,true,true,true,true,true,true,true,true] rfl rfl (by kernel_rfl) (fun _ _ _ h=>h) (Or.inl ⟨by rfl,?_⟩) ?_ ?_
              rotate_left
              · intro w';go_simp;try with_reducible rfl
              rotate_left
              · simp only [Act.put,List.setIfInBounds_toArray,List.set_cons_zero,List.set_cons_succ,i64_w,i32_w];rfl
              refine done_ (by kernel_rfl) ?_
              clear p6 hB6 bP6 bP hB
              have hls : ∀ s ∈ l,s.size ≤ 1048576:=by
                intro s hs
                rw [← hl.out] at hs
                rcases List.mem_append.1 hs with h | h
                · exact hz0.c s h
                · rw [List.mem_singleton.1 h];exact hz0.t
              have hll : l.length ≤ 1048577:=by rw [← hl.out,List.length_append,List.length_singleton];have:=hz0.m;omega
              replace hls:=Lib.hid hls
              replace ho:=Lib.hid ho
              go_wp2
              rw [t5,show ([title] : List ByteArray).length = 1 from rfl]
              go_loopw [62] (fun v5 wi=>∃ (j : Nat) (x : Int),v5 = .int .i64 x ∧ Hid (x = j ∧ j ≤ l.length) ∧ Hid (l.all uline = (l.drop j).all uline) ∧ Hid (Below w9.heap.size w9 wi)) (fun v5 _=>l.length - (intOf v5).toNat)
              case atStart=>exact ⟨0,0,rfl,Lib.hid ⟨rfl,Nat.zero_le _⟩,Lib.hid (by rw [List.drop_zero]),Lib.hid (Below.refl _ _)⟩
              case round =>
                obtain ⟨j,x,rfl,hj,ha,hBi⟩:=hrel
                by_cases hjl : j < l.length
                · have hx0 : 0 ≤ x:=by have:=hj.out;omega
                  have hx1 : x < (l.length : Int):=by have:=hj.out;omega
                  have hx3 : x < 1048577:=by omega
                  obtain ⟨ad,eA,zx⟩:=Kd.at_string (Kd.R_reads' (Kd.R_below ho.out hBi.out)).2.2 x hx0 hx1
                  cases eA
                  obtain ⟨xa,hxa⟩ : ∃ y,rdOf ByteArray.empty l x = y:=⟨_,rfl⟩
                  have e1 : l[j] = xa:=by rw [← hxa,hj.out.1];simp [rdOf,List.getD_eq_getElem?_getD,hjl]
                  have hxs : xa.size ≤ 1048576:=by rw [← e1];exact hls.out _ (List.getElem_mem _)
                  have ha2 : l.all uline = (uline xa && (l.drop (j + 1)).all uline):=by rw [ha.out,List.drop_eq_getElem_cons hjl,List.all_cons,e1]
                  rw [hxa] at zx
                  clear hxa e1 ha
                  have hTi:=tabs_below hT (below_step hb hBi.out)
                  cases hli : uline xa with
                  | false =>
                    have hE2 : l.all uline = false:=by rw [ha2,hli];rfl
                    replace hE2:=Lib.hid hE2
                    replace hli:=Lib.hid hli
                    clear ha2
                    go_wp2_with (first
                      | (go_at_call 62;go_must (refine (page_line.calls xa _ _ hTi (by unfold page_line.f;rw [if_pos (by omega),hli.out])).mono ?_;rintro e w8 ⟨rfl,hb8⟩)))
                    go_ret
                    exact ⟨by rw [hV.out,hE2.out];rfl,below_step (below_step hb hBi.out) hb8⟩
                  | true =>
                    have hE2 : l.all uline = (l.drop (j + 1)).all uline:=by rw [ha2,hli];rfl
                    replace hE2:=Lib.hid hE2
                    replace hli:=Lib.hid hli
                    replace hjl:=Lib.hid hjl
                    clear ha2
                    go_wp2_with (first
                      | (go_at_call 62;go_must (refine (page_line.calls xa _ _ hTi (by unfold page_line.f;rw [if_pos (by omega),hli.out])).mono ?_;rintro e w8 ⟨rfl,hb8⟩)))
                    refine ⟨⟨j + 1,x + 1,rfl,Lib.hid ⟨by have:=hj.out;omega,hjl.out⟩,hE2,Lib.hid (below_step hBi.out hb8)⟩,?_⟩
                    simp only [intOf];have:=hj.out;have:=hjl.out;omega
                · have hge2 : ¬ x < (l.length : Int):=by have:=hj.out;omega
                  have hE2 : l.all uline = true:=by rw [ha.out,List.drop_of_length_le (by omega)];rfl
                  replace hE2:=Lib.hid hE2
                  clear ha
                  go_wp2
                  go_ret
                  exact ⟨by rw [hV.out,hE2.out];rfl,below_step hb hBi.out⟩
            · refine Kd.R_lit_step Kd.string _ 9 ?hg (N:=59) ?hd (xs:=([title] : List ByteArray)) (inner:=[.string title]) (ok:=fun _=>True) (okp:=fun _=>True) ?hr ?hp (fun _ hk=>hk) trivial (Below.refl _ _) (Nat.le_refl _) (by simp) ?_;(case hd=>rfl);(case hg=>rfl);(case hr=>first | (go_simp;done) | (go_simp;rfl));(case hp=>exact (Reps.one (show Kd.M Kd.string _ _ _ title [.string title] from rfl) (Reps.none _ _)))
              intro v5 _ ho hb _ _
              have RY:=Kd.R_lower ho (below_size hB)
              have bP:=blk_below bP hb
              have hB:=below_step hB hb
              clear ho hb
              obtain ⟨B5,b5,rfl⟩:=Kd.R_slice RY
              refine hK.out _ _ ⟨(blk_cell bP 0).trans rfl,(blk_cell bP 7).trans rfl⟩ (fun hHeld=>?_)
              clear hK K
              refine norm_ (a':=?_) ?_ ?_
              rotate_left
              · show Act.put _ (some 59) _ = _
                simp only [Act.put,List.setIfInBounds_toArray,List.set_cons_zero,List.set_cons_succ,i64_w,i32_w]
                rfl
              refine one_ (i:=2) (N:=some 56) #[true,true,true,true,true,true,false,false,true] rfl rfl (by kernel_rfl) (by decide) (fun K hK=>?_)
              refine goes_ Tryz.func38 (by kernel_rfl) rfl #[.slice A6 clues.length c6] (by rfl) rfl rfl (by first | (go_simp;done) | (go_simp;rfl)) ?_
              refine (slices_Clone_string_string.calls _ _ clues clues _ (hP.below hB).r6 hP.k6 (by unfold slices_Clone_string_string.f;rw [if_pos (by omega)])).mono ?_
              rintro e _ ⟨v2,rfl,ho,hb⟩
              have RX:=Kd.R_lower ho (below_size hB)
              have RY:=Kd.R_below RY hb
              have bP:=blk_below bP hb
              have hB:=below_step hB hb
              clear ho hb
              obtain ⟨B2,b2,rfl⟩:=Kd.R_slice RX
              refine ⟨_,rfl,?_⟩
              refine hK.out _ _ ⟨(blk_cell bP 0).trans rfl,(blk_cell bP 7).trans rfl⟩ (fun hHeld=>?_)
              clear hK K
              refine norm_ (a':=?_) ?_ ?_
              rotate_left
              · show Act.put _ (some 56) _ = _
                simp only [Act.put,List.setIfInBounds_toArray,List.set_cons_zero,List.set_cons_succ,i64_w,i32_w]
                rfl
              refine one_ (i:=6) (N:=some 60) #[true,true,true,true,true,true,true,false,true] rfl rfl (by kernel_rfl) (by decide) (fun K hK=>?_)
              refine Kd.R_append_rows_step Kd.string (w0:=w) w.heap.size (by rfl) (.tmp 56) (.tmp 59) 40 9 (.string ⟨#[]⟩) 16 rfl Tryz.underlying40 str_info rfl (by decide) (by decide) (.slice B2 clues.length b2) clues [title] _ _ _ (fun _=>True) (fun _=>False) rfl rfl ?aO ?aR (fun _ _ h=>h) (fun _ h=>h.elim) ?aF ?aB ?aS ?aL ?_
              (case aR=>exact (Kd.R_reads' RY).2.2)
              (case aB=>exact hB)
              (case aF=>exact (fun _ _=>trivial))
              (case aO=>exact RX)
              (case aS=>exact below_size hB)
              (case aL=>have:=hz0.m;simp only [List.length_singleton];omega)
              intro v6 w9 ho hb hg _
              rw [hl.out] at ho
              have bP:=blk_grown bP hg (Kd.R_ne RX bP (by decide))
              clear RX RY hg
              obtain ⟨B6,b6,rfl⟩:=Kd.R_slice ho
              refine hK.out _ _ ⟨(blk_cell bP 0).trans rfl,(blk_cell bP 7).trans rfl⟩ (fun hHeld=>?_)
              clear hK K
              refine norm_ (a':=?_) ?_ ?_
              rotate_left
              · show Act.put _ (some 60) _ = _
                simp only [Act.put,List.setIfInBounds_toArray,List.set_cons_zero,List.set_cons_succ,i64_w,i32_w]
                rfl
              refine pure_ (i:=7) (N:=some 61) (v:=?_) (a':=?_) #[true,true,true,true,true,true,true,true,true] rfl rfl (by kernel_rfl) (fun _ _ _ h=>h) (Or.inl ⟨by rfl,?_⟩) ?_ ?_
              rotate_left
              · intro w';go_simp;try with_reducible rfl
              rotate_left
              · simp only [Act.put,List.setIfInBounds_toArray,List.set_cons_zero,List.set_cons_succ,i64_w,i32_w];rfl
              refine done_ (by kernel_rfl) ?_
              clear p6 hB6 bP6 bP hB
              have hls : ∀ s ∈ l,s.size ≤ 1048576:=by
                intro s hs
                rw [← hl.out] at hs
                rcases List.mem_append.1 hs with h | h
                · exact hz0.c s h
                · rw [List.mem_singleton.1 h];exact hz0.t
              have hll : l.length ≤ 1048577:=by rw [← hl.out,List.length_append,List.length_singleton];have:=hz0.m;omega
              replace hls:=Lib.hid hls
              replace ho:=Lib.hid ho
              go_wp2
              rw [t5,show ([title] : List ByteArray).length = 1 from rfl]
              go_loopw [62] (fun v5 wi=>∃ (j : Nat) (x : Int),v5 = .int .i64 x ∧ Hid (x = j ∧ j ≤ l.length) ∧ Hid (l.all uline = (l.drop j).all uline) ∧ Hid (Below w9.heap.size w9 wi)) (fun v5 _=>l.length - (intOf v5).toNat)
              case atStart=>exact ⟨0,0,rfl,Lib.hid ⟨rfl,Nat.zero_le _⟩,Lib.hid (by rw [List.drop_zero]),Lib.hid (Below.refl _ _)⟩
              case round =>
                obtain ⟨j,x,rfl,hj,ha,hBi⟩:=hrel
                by_cases hjl : j < l.length
                · have hx0 : 0 ≤ x:=by have:=hj.out;omega
                  have hx1 : x < (l.length : Int):=by have:=hj.out;omega
                  have hx3 : x < 1048577:=by omega
                  obtain ⟨ad,eA,zx⟩:=Kd.at_string (Kd.R_reads' (Kd.R_below ho.out hBi.out)).2.2 x hx0 hx1
                  cases eA
                  obtain ⟨xa,hxa⟩ : ∃ y,rdOf ByteArray.empty l x = y:=⟨_,rfl⟩
                  have e1 : l[j] = xa:=by rw [← hxa,hj.out.1];simp [rdOf,List.getD_eq_getElem?_getD,hjl]
                  have hxs : xa.size ≤ 1048576:=by rw [← e1];exact hls.out _ (List.getElem_mem _)
                  have ha2 : l.all uline = (uline xa && (l.drop (j + 1)).all uline):=by rw [ha.out,List.drop_eq_getElem_cons hjl,List.all_cons,e1]
                  rw [hxa] at zx
                  clear hxa e1 ha
                  have hTi:=tabs_below hT (below_step hb hBi.out)
                  cases hli : uline xa with
                  | false =>
                    have hE2 : l.all uline = false:=by rw [ha2,hli];rfl
                    replace hE2:=Lib.hid hE2
                    replace hli:=Lib.hid hli
                    clear ha2
                    go_wp2_with (first
                      | (go_at_call 62;go_must (refine (page_line.calls xa _ _ hTi (by unfold page_line.f;rw [if_pos (by omega),hli.out])).mono ?_;rintro e w8 ⟨rfl,hb8⟩)))
                    go_ret
                    exact ⟨by rw [hV.out,hE2.out];rfl,below_step (below_step hb hBi.out) hb8⟩
                  | true =>
                    have hE2 : l.all uline = (l.drop (j + 1)).all uline:=by rw [ha2,hli];rfl
                    replace hE2:=Lib.hid hE2
                    replace hli:=Lib.hid hli
                    replace hjl:=Lib.hid hjl
                    clear ha2
                    go_wp2_with (first
                      | (go_at_call 62;go_must (refine (page_line.calls xa _ _ hTi (by unfold page_line.f;rw [if_pos (by omega),hli.out])).mono ?_;rintro e w8 ⟨rfl,hb8⟩)))
                    refine ⟨⟨j + 1,x + 1,rfl,Lib.hid ⟨by have:=hj.out;omega,hjl.out⟩,hE2,Lib.hid (below_step hBi.out hb8)⟩,?_⟩
                    simp only [intOf];have:=hj.out;have:=hjl.out;omega
                · have hge2 : ¬ x < (l.length : Int):=by have:=hj.out;omega
                  have hE2 : l.all uline = true:=by rw [ha.out,List.drop_of_length_le (by omega)];rfl
                  replace hE2:=Lib.hid hE2
                  clear ha
                  go_wp2
                  go_ret
                  exact ⟨by rw [hV.out,hE2.out];rfl,below_step hb hBi.out⟩
          · have t5 : ((clues.length : Int) != (L.length : Int)) = true:=bne_iff_ne.2 (by omega)
            have t5b : (clues.length != L.length) = true:=by simpa using hcl
            have hV : V = 160:=by
              rw [← hV0.out,hE.out,hL.out,if_neg hcl]
              rfl
            replace hV:=Lib.hid hV
            replace hcl:=Lib.hid hcl
            go_wp2
            go_ret
            exact ⟨by first | (rw [hV.out];done) | (rw [hV.out];rfl) | rfl,hB6.out⟩
    · have t1 : ((cells.length : Int) != (bl.length : Int)) = true:=bne_iff_ne.2 (by omega)
      have t1b : (cells.length != bl.length) = true:=by simpa using hs
      have hv : pcheck title H W bl ri be cells clues = 51:=by unfold pcheck;rw [if_pos hg,if_neg hs]
      rw [hv]
      clear hv
      replace hg:=Lib.hid hg
      go_enter Tryz.func49,Tryz.ntmps49
      go_wp2_with (first
        | (go_at_call 59;go_must (have hPx:=hP.below hx.out.2;refine (grid_Check.calls _ _ _ _ _ _ _ _ _ _ _ _ _ _ hPx.r2 hPx.k2 hPx.r3 hPx.k3 hPx.r4 hPx.k4 hgk.out).mono ?_;clear hPx;rintro e w3 ⟨rfl,hb3⟩;have hB3:=Lib.hid (below_step hx.out.2 hb3);have bP:=Lib.hid (blk_below hx.out.1 hb3);have p3:=cells8 bP.out;clear hb3)))
      go_ret
      exact ⟨rfl,hB3.out⟩
  · have tg : (gcheck H W bl ri be != 0) = true:=bne_iff_ne.2 hg
    have hv : pcheck title H W bl ri be cells clues = gcheck H W bl ri be:=by unfold pcheck;rw [if_neg hg]
    rw [hv]
    have hgk:=grid_Check_eq H W bl ri be (bl.length + 3) (Nat.le_refl _)
    clear hv hz
    obtain ⟨ge,hge⟩ : ∃ x,gcheck H W bl ri be = x:=⟨_,rfl⟩
    rw [hge] at tg hgk ⊢
    clear hg
    replace hgk:=Lib.hid hgk
    replace hge:=Lib.hid hge
    go_enter Tryz.func49,Tryz.ntmps49
    go_wp2_with (first
      | (go_at_call 59;go_must (have hPx:=hP.below hx.out.2;refine (grid_Check.calls _ _ _ _ _ _ _ _ _ _ _ _ _ _ hPx.r2 hPx.k2 hPx.r3 hPx.k3 hPx.r4 hPx.k4 hgk.out).mono ?_;clear hPx;rintro e w3 ⟨rfl,hb3⟩;have hB3:=Lib.hid (below_step hx.out.2 hb3);have bP:=Lib.hid (blk_below hx.out.1 hb3);have p3:=cells8 bP.out;clear hb3)))
    go_ret
    exact ⟨rfl,hB3.out⟩
end Go.Proofs.YtjopbfidjapmbaaGreatDoor.Q
end
section
namespace Go.Proofs.YtjopbfidjapmbaaGreatDoor.Q
open Go.RowKit Go.Proofs.YtjopbfidjapmbaaGreatDoorW.PrintWords Go.Proofs.YtjopbfidjapmbaaGreatDoorW.PrintLast Go.Proofs.YtjopbfidjapmbaaGreatDoorW.PrintMore
set_option linter.unusedVariables false
set_option linter.unusedSimpArgs false
open Go.Proofs.YtjopbfidjapmbaaGreatDoorS
theorem sbad_step {sc : List ByteArray} {ss : List Bool} {n i : Nat} (hi : i < n) : sbad sc ss (n - i) i = (((rdOf ByteArray.empty sc (i : Int)).toList.isEmpty && rdOf false ss (i : Int)) || sbad sc ss (n - (i + 1)) (i + 1)):=by
  obtain ⟨d,hd⟩ : ∃ d,n - i = d + 1:=⟨n - i - 1,by omega⟩
  rw [hd,show n - (i + 1) = d by omega]
  rfl
theorem scheck_self {title : ByteArray} {H W : Int} {bl ri be : List Bool} {cells clues sc : List ByteArray} {ss : List Bool} {at_ : Int} (hp : pcheck title H W bl ri be cells clues = 0) (h1 : sc.length = cells.length) (h2 : ss.length = cells.length) : scheck title H W bl ri be cells clues sc ss at_ = if pcheck ⟨#[]⟩ H W bl ri be sc clues = 0 then (if sbad sc ss sc.length 0 then 33 else if gopen bl at_ then 0 else 230) else 33:=by
  unfold scheck
  rw [if_pos hp,if_pos ⟨h1,h2⟩]
theorem puzzle_of {A2 : Option Addr} {c2 : Nat} {bl : List Bool} {A3 : Option Addr} {c3 : Nat} {ri : List Bool} {A4 : Option Addr} {c4 : Nat} {be : List Bool} {A5 : Option Addr} {c5 : Nat} {cells : List ByteArray} {A6 : Option Addr} {c6 : Nat} {clues : List ByteArray} {A7 : Option Addr} {c7 : Nat} {sc : List ByteArray} {A8 : Option Addr} {c8 : Nat} {ss : List Bool} {w : World} (hP : PuzR A2 c2 bl A3 c3 ri A4 c4 be A5 c5 cells A6 c6 clues w) (hS : ShtR A7 c7 sc A8 c8 ss w) : PuzR A2 c2 bl A3 c3 ri A4 c4 be A7 c7 sc A6 c6 clues w:=⟨hP.r2,hP.k2,hP.r3,hP.k3,hP.r4,hP.k4,hS.r7,hS.k7,hP.r6,hP.k6⟩
set_option maxHeartbeats 8000000 in
set_option maxRecDepth 1000000 in
theorem check_calls {title : ByteArray} {H W : Int} {A2 : Option Addr} {c2 : Nat} {bl : List Bool} {A3 : Option Addr} {c3 : Nat} {ri : List Bool} {A4 : Option Addr} {c4 : Nat} {be : List Bool} {A5 : Option Addr} {c5 : Nat} {cells : List ByteArray} {A6 : Option Addr} {c6 : Nat} {clues : List ByteArray} {A7 : Option Addr} {c7 : Nat} {sc : List ByteArray} {A8 : Option Addr} {c8 : Nat} {ss : List Bool} {at_ : Int} {dn : Bool} {w : World} (hT : Tabs w) (hP : PuzR A2 c2 bl A3 c3 ri A4 c4 be A5 c5 cells A6 c6 clues w) (hS : ShtR A7 c7 sc A8 c8 ss w) (hz : PuzS title cells clues) (hzs : Small sc) :
    Calls Tryz.prog 63 #[.agg #[.string title,.int .i64 H,.int .i64 W,.slice A2 bl.length c2,.slice A3 ri.length c3,.slice A4 be.length c4,.slice A5 cells.length c5,.slice A6 clues.length c6],.agg #[.slice A7 sc.length c7,.slice A8 ss.length c8,.int .i64 at_,.bool dn]] w fun e w'=>e = .returned (.int .i64 (scheck title H W bl ri be cells clues sc ss at_)) ∧ Below w.heap.size w w':=by
  have hx:=box2 w (.cells #[.string title,.int .i64 H,.int .i64 W,.slice A2 bl.length c2,.slice A3 ri.length c3,.slice A4 be.length c4,.slice A5 cells.length c5,.slice A6 clues.length c6] 42) (.cells #[.slice A7 sc.length c7,.slice A8 ss.length c8,.int .i64 at_,.bool dn] 57)
  replace hx:=Lib.hid hx
  have hu27:=Tryz.underlying42
  have hu24:=Tryz.underlying39
  have hu30:=Tryz.underlying57
  have tok1 : True:=trivial
  by_cases hp : pcheck title H W bl ri be cells clues = 0
  · have tp : ((0 : Int) != 0) = false:=rfl
    have hg:=(pcheck_ok hp).1
    by_cases h1 : sc.length = cells.length
    · have t1 : ((sc.length : Int) != (cells.length : Int)) = false:=by rw [h1];simp
      have t1b : (sc.length != cells.length) = false:=by rw [h1];simp
      by_cases h2 : ss.length = cells.length
      · have t2 : ((ss.length : Int) != (cells.length : Int)) = false:=by rw [h2];simp
        have t2b : (ss.length != cells.length) = false:=by rw [h2];simp
        rw [scheck_self hp h1 h2]
        have hz2:=Lib.hid (PuzS.mk (title:=⟨#[]⟩) (by decide) hzs hz.c (by have:=hz.l;omega) hz.m)
        replace h1:=Lib.hid h1
        replace h2:=Lib.hid h2
        replace hp:=Lib.hid hp
        have tok2 : True:=trivial
        by_cases hp2 : pcheck ⟨#[]⟩ H W bl ri be sc clues = 0
        · rw [if_pos hp2]
          obtain ⟨V,hV⟩ : ∃ V,(if sbad sc ss sc.length 0 then (33 : Int) else if gopen bl at_ then 0 else 230) = V:=⟨_,rfl⟩
          rw [hV]
          replace hV:=Lib.hid hV
          replace hp2:=Lib.hid hp2
          have hop:=grid_Open_eq H W bl ri be at_ (bl.length + 3) (Nat.le_refl _)
          rw [decide_eq_true hg,Bool.true_and] at hop
          clear hg
          go_enter Tryz.func63,Tryz.ntmps63
          go_wp2_with (first
            | (go_at_call 49;have tq:=tok1;go_must (clear tq tok1;refine (page_calls (tabs_below hT hx.out.2.2) (hP.below hx.out.2.2) hz).mono ?_;rintro e w3 ⟨rfl,hb3⟩;rw [hp.out];have hB3:=Lib.hid (below_step hx.out.2.2 hb3);have bP:=Lib.hid (blk_below hx.out.1 hb3);have bS:=Lib.hid (blk_below hx.out.2.1 hb3);have p3:=cells8 bP.out;have s3:=cells4 bS.out;clear hb3))
            | (go_at_call 49;have tq:=tok2;go_must (clear tq tok2;refine (page_calls (tabs_below hT hB3.out) (puzzle_of (hP.below hB3.out) (hS.below hB3.out)) hz2.out).mono ?_;rintro e w5 ⟨rfl,hb5⟩;rw [hp2.out];have hB5:=Lib.hid (below_step hB3.out hb5);have bP5:=Lib.hid (blk_below bP.out hb5);have bS5:=Lib.hid (blk_below bS.out hb5);have p5:=cells8 bP5.out;have s5:=cells4 bS5.out;clear hb5 p3 s3)))
          go_loopw [41] (fun v41 wr=>∃ (i : Nat) (q : Int),v41 = .int .i64 q ∧ Hid (q = i ∧ i ≤ sc.length) ∧ Hid (sbad sc ss sc.length 0 = sbad sc ss (sc.length - i) i) ∧ Hid (wr.heap[w.heap.size]? = some (.cells #[.string title,.int .i64 H,.int .i64 W,.slice A2 bl.length c2,.slice A3 ri.length c3,.slice A4 be.length c4,.slice A5 cells.length c5,.slice A6 clues.length c6] 42 (0,0))) ∧ Hid (wr.heap[w.heap.size + 1]? = some (.cells #[.slice A7 sc.length c7,.slice A8 ss.length c8,.int .i64 at_,.bool dn] 57 (0,0))) ∧ Hid (Below w.heap.size w wr)) (fun v41 _=>sc.length - (intOf v41).toNat)
          case atStart=>exact ⟨0,0,rfl,Lib.hid ⟨rfl,Nat.zero_le _⟩,Lib.hid rfl,bP5,bS5,hB5⟩
          case round =>
            clear hB3 bP bS t1 t1b t2 t2b tp hB5 bP5 bS5 p5 s5
            obtain ⟨i,q,rfl,hq,hrb,bP,bS,hB⟩:=hrel
            have p4:=cells8 bP.out
            have s4:=cells4 bS.out
            by_cases hlt : i < sc.length
            · have hq0 : 0 ≤ q:=by have:=hq.out;omega
              have hq1 : q < (sc.length : Int):=by have:=hq.out;omega
              have hq4 : q < (ss.length : Int):=by have:=h1.out;have:=h2.out;omega
              have hq3 : q < 1048576:=by have:=hz2.out.l;omega
              obtain ⟨ad,eA,zx⟩:=Kd.at_string (hS.below hB.out).r7 q hq0 hq1
              obtain ⟨ad3,eA3,zs⟩:=Kd.at_bool (hS.below hB.out).r8 q hq0 hq4
              cases eA
              cases eA3
              have hst:=sbad_step (sc:=sc) (ss:=ss) hlt
              rw [← hq.out.1] at hst
              obtain ⟨xa,hxa⟩ : ∃ x,rdOf ByteArray.empty sc q = x:=⟨_,rfl⟩
              obtain ⟨sb,hsb⟩ : ∃ x,rdOf false ss q = x:=⟨_,rfl⟩
              rw [hxa,hsb] at hst
              rw [hxa] at zx
              rw [hsb] at zs
              clear hxa hsb
              by_cases hne : xa.toList = []
              · have te : xa.toList.isEmpty = true:=by rw [hne];rfl
                rw [te] at hst
                cases sb with
                | false =>
                  have hE : sbad sc ss sc.length 0 = sbad sc ss (sc.length - (i + 1)) (i + 1):=by rw [hrb.out,hst];rfl
                  replace hE:=Lib.hid hE
                  replace hlt:=Lib.hid hlt
                  clear hst hrb
                  go_wp2
                  refine ⟨⟨i + 1,q + 1,rfl,Lib.hid ⟨by have:=hq.out;omega,hlt.out⟩,hE,bP,bS,hB⟩,?_⟩
                  simp only [intOf];have:=hq.out;have:=hlt.out;omega
                | true =>
                  have hE : sbad sc ss sc.length 0 = true:=by rw [hrb.out,hst];rfl
                  replace hE:=Lib.hid hE
                  clear hst hrb
                  go_wp2
                  go_ret
                  exact ⟨by rw [← hV.out,hE.out];rfl,hB.out⟩
              · have te : xa.toList.isEmpty = false:=toList_nil.2 hne
                rw [te] at hst
                have hE : sbad sc ss sc.length 0 = sbad sc ss (sc.length - (i + 1)) (i + 1):=by rw [hrb.out,hst];rfl
                replace hE:=Lib.hid hE
                replace hlt:=Lib.hid hlt
                clear hst hrb
                go_wp2
                refine ⟨⟨i + 1,q + 1,rfl,Lib.hid ⟨by have:=hq.out;omega,hlt.out⟩,hE,bP,bS,hB⟩,?_⟩
                simp only [intOf];have:=hq.out;have:=hlt.out;omega
            · have hge : ¬ q < (sc.length : Int):=by have:=hq.out;omega
              have hE : sbad sc ss sc.length 0 = false:=by rw [hrb.out,show sc.length - i = 0 by have:=hq.out;omega];rfl
              replace hE:=Lib.hid hE
              clear hrb
              obtain ⟨q0,q1,q2,q3,q4,q5,q6,q7⟩:=p4
              cases ho : gopen bl at_ with
              | false =>
                have hv:=hop
                rw [ho] at hv
                replace hv:=Lib.hid hv
                replace ho:=Lib.hid ho
                clear hop
                go_wp2_with (first
                  | (go_at_call 69;go_must (have hPx:=hP.below hB.out;refine (grid_Open.calls _ _ _ _ _ _ _ _ _ _ _ _ _ _ _ hPx.r2 hPx.k2 hPx.r3 hPx.k3 hPx.r4 hPx.k4 hv.out).mono ?_;rintro e w6 ⟨rfl,hb6⟩)))
                go_ret
                exact ⟨by rw [← hV.out,hE.out,ho.out];rfl,below_step hB.out hb6⟩
              | true =>
                have hv:=hop
                rw [ho] at hv
                replace hv:=Lib.hid hv
                replace ho:=Lib.hid ho
                clear hop
                go_wp2_with (first
                  | (go_at_call 69;go_must (have hPx:=hP.below hB.out;refine (grid_Open.calls _ _ _ _ _ _ _ _ _ _ _ _ _ _ _ hPx.r2 hPx.k2 hPx.r3 hPx.k3 hPx.r4 hPx.k4 hv.out).mono ?_;rintro e w6 ⟨rfl,hb6⟩)))
                go_ret
                exact ⟨by rw [← hV.out,hE.out,ho.out];rfl,below_step hB.out hb6⟩
        · rw [if_neg hp2]
          obtain ⟨pe,hpe⟩ : ∃ x,pcheck ⟨#[]⟩ H W bl ri be sc clues = x:=⟨_,rfl⟩
          have tp2 : (pe != 0) = true:=bne_iff_ne.2 (by rw [← hpe];exact hp2)
          clear hp2 hg
          have hp2:=Lib.hid hpe
          clear hpe
          go_enter Tryz.func63,Tryz.ntmps63
          go_wp2_with (first
            | (go_at_call 49;have tq:=tok1;go_must (clear tq tok1;refine (page_calls (tabs_below hT hx.out.2.2) (hP.below hx.out.2.2) hz).mono ?_;rintro e w3 ⟨rfl,hb3⟩;rw [hp.out];have hB3:=Lib.hid (below_step hx.out.2.2 hb3);have bP:=Lib.hid (blk_below hx.out.1 hb3);have bS:=Lib.hid (blk_below hx.out.2.1 hb3);have p3:=cells8 bP.out;have s3:=cells4 bS.out;clear hb3))
            | (go_at_call 49;have tq:=tok2;go_must (clear tq tok2;refine (page_calls (tabs_below hT hB3.out) (puzzle_of (hP.below hB3.out) (hS.below hB3.out)) hz2.out).mono ?_;rintro e w5 ⟨rfl,hb5⟩;rw [hp2.out];have hB5:=Lib.hid (below_step hB3.out hb5);have bP5:=Lib.hid (blk_below bP.out hb5);have bS5:=Lib.hid (blk_below bS.out hb5);have p5:=cells8 bP5.out;have s5:=cells4 bS5.out;clear hb5 p3 s3)))
          go_ret
          exact ⟨rfl,hB5.out⟩
      · have t2 : ((ss.length : Int) != (cells.length : Int)) = true:=bne_iff_ne.2 (by omega)
        have t2b : (ss.length != cells.length) = true:=by simpa using h2
        have hv : scheck title H W bl ri be cells clues sc ss at_ = 51:=by unfold scheck;rw [if_pos hp,if_neg (fun h=>h2 h.2)]
        rw [hv]
        clear hv hg h1 h2
        replace hp:=Lib.hid hp
        go_enter Tryz.func63,Tryz.ntmps63
        go_wp2_with (first
          | (go_at_call 49;have tq:=tok1;go_must (clear tq tok1;refine (page_calls (tabs_below hT hx.out.2.2) (hP.below hx.out.2.2) hz).mono ?_;rintro e w3 ⟨rfl,hb3⟩;rw [hp.out];have hB3:=Lib.hid (below_step hx.out.2.2 hb3);have bP:=Lib.hid (blk_below hx.out.1 hb3);have bS:=Lib.hid (blk_below hx.out.2.1 hb3);have p3:=cells8 bP.out;have s3:=cells4 bS.out;clear hb3)))
        go_ret
        exact ⟨rfl,hB3.out⟩
    · have t1 : ((sc.length : Int) != (cells.length : Int)) = true:=bne_iff_ne.2 (by omega)
      have t1b : (sc.length != cells.length) = true:=by simpa using h1
      have hv : scheck title H W bl ri be cells clues sc ss at_ = 51:=by unfold scheck;rw [if_pos hp,if_neg (fun h=>h1 h.1)]
      rw [hv]
      clear hv hg h1
      replace hp:=Lib.hid hp
      go_enter Tryz.func63,Tryz.ntmps63
      go_wp2_with (first
        | (go_at_call 49;have tq:=tok1;go_must (clear tq tok1;refine (page_calls (tabs_below hT hx.out.2.2) (hP.below hx.out.2.2) hz).mono ?_;rintro e w3 ⟨rfl,hb3⟩;rw [hp.out];have hB3:=Lib.hid (below_step hx.out.2.2 hb3);have bP:=Lib.hid (blk_below hx.out.1 hb3);have bS:=Lib.hid (blk_below hx.out.2.1 hb3);have p3:=cells8 bP.out;have s3:=cells4 bS.out;clear hb3)))
      go_ret
      exact ⟨rfl,hB3.out⟩
  · have tp : (pcheck title H W bl ri be cells clues != 0) = true:=bne_iff_ne.2 hp
    have hv : scheck title H W bl ri be cells clues sc ss at_ = pcheck title H W bl ri be cells clues:=by unfold scheck;rw [if_neg hp]
    rw [hv]
    clear hv hp
    obtain ⟨pe,hpe⟩ : ∃ x,pcheck title H W bl ri be cells clues = x:=⟨_,rfl⟩
    rw [hpe] at tp ⊢
    replace hpe:=Lib.hid hpe
    go_enter Tryz.func63,Tryz.ntmps63
    go_wp2_with (first
      | (go_at_call 49;have tq:=tok1;go_must (clear tq tok1;refine (page_calls (tabs_below hT hx.out.2.2) (hP.below hx.out.2.2) hz).mono ?_;rintro e w3 ⟨rfl,hb3⟩;rw [hpe.out];have hB3:=Lib.hid (below_step hx.out.2.2 hb3);have bP:=Lib.hid (blk_below hx.out.1 hb3);have bS:=Lib.hid (blk_below hx.out.2.1 hb3);have p3:=cells8 bP.out;have s3:=cells4 bS.out;clear hb3)))
    go_ret
    exact ⟨rfl,hB3.out⟩
end Go.Proofs.YtjopbfidjapmbaaGreatDoor.Q
end
section
namespace Go.Proofs.YtjopbfidjapmbaaGreatDoor.Q
open Go.RowKit Go.Proofs.YtjopbfidjapmbaaGreatDoorW.PrintWords Go.Proofs.YtjopbfidjapmbaaGreatDoorW.PrintLast Go.Proofs.YtjopbfidjapmbaaGreatDoorW.PrintMore
attribute [local go_sem] max2_int min2_int max_two min_two max_three min_three max_four min_four
set_option linter.unusedVariables false
set_option linter.unusedSimpArgs false
open Go.Proofs.YtjopbfidjapmbaaGreatDoorS
set_option maxHeartbeats 4000000 in
set_option maxRecDepth 100000 in
theorem sheet_write.calls (b : Nat) (base : Nat) (g0 g1 : Nat) (c0 c1 : Nat) (xs : List ByteArray) (bs : List Bool) (i : Int) (dn : Bool) (text : ByteArray) (w : World)
  (hbox : w.heap[b]? = some (.cells #[.slice (some ⟨g0,0,none⟩) xs.length c0,.slice (some ⟨g1,0,none⟩) bs.length c1,.int .i64 i,.bool dn] 57 (0,0)))
  (hx : Kd.R Kd.string 9 w base (fun _=>True) (.slice (some ⟨g0,0,none⟩) xs.length c0) xs) (hb : Kd.R Kd.bool 4 w base (fun _=>True) (.slice (some ⟨g1,0,none⟩) bs.length c1) bs)
  (h0 : 0 ≤ i) (h1 : i < xs.length) (h2 : i < bs.length) :
  Calls Tryz.prog 67 #[.pointer (some ⟨b,0,none⟩),.string text] w fun e w'=>e = .returned (.tuple #[]) ∧ w'.heap[b]? = some (.cells #[.slice (some ⟨g0,0,none⟩) xs.length c0,.slice (some ⟨g1,0,none⟩) bs.length c1,.int .i64 i,.bool dn] 57 (0,0)) ∧ Kd.R Kd.string 9 w' base (fun _=>True) (.slice (some ⟨g0,0,none⟩) xs.length c0) (xs.set i.toNat text) ∧ Kd.R Kd.bool 4 w' base (fun _=>True) (.slice (some ⟨g1,0,none⟩) bs.length c1) (bs.set i.toNat (!text.toList.isEmpty)) ∧ (∀ k,k ≠ g0 → k ≠ g1 → w'.heap[k]? = w.heap[k]?) ∧ (∀ B w0,Below B w0 w → B ≤ g0 → B ≤ g1 → Below B w0 w'):=by
 have hu:=Tryz.underlying57
 have z0 : w.cell? ⟨b,0,none⟩ = some (.slice (some ⟨g0,0,none⟩) xs.length c0):=(blk_cell hbox 0).trans rfl
 have z1 : w.cell? ⟨b,1,none⟩ = some (.slice (some ⟨g1,0,none⟩) bs.length c1):=(blk_cell hbox 1).trans rfl
 have z2 : w.cell? ⟨b,2,none⟩ = some (.int .i64 i):=(blk_cell hbox 2).trans rfl
 obtain ⟨ad0,e0,x0⟩:=Kd.at_string (Kd.R_reads' hx).2.2 i h0 h1
 cases e0
 obtain ⟨ad1,e1,x1⟩:=Kd.at_bool (Kd.R_reads' hb).2.2 i h0 h2
 cases e1
 have d0 : decide (0 ≤ i) = true:=decide_eq_true h0
 have d1 : decide (i < (xs.length : Int)) = true:=decide_eq_true h1
 have d2 : decide (i < (bs.length : Int)) = true:=decide_eq_true h2
 go_enter Tryz.func67,Tryz.ntmps67
 have n0 : g0 ≠ b:=fun e=>by have:=Kd.R_ne hx hbox (by decide);simp [Value.ownBlock,e] at this
 have n1 : g1 ≠ b:=fun e=>by have:=Kd.R_ne hb hbox (by decide);simp [Value.ownBlock,e] at this
 have hl0 : 0 < xs.length:=by omega
 have hl1 : 0 < bs.length:=by omega
 obtain ⟨cs0,hc0⟩:=Kd.R_typed hx g0 rfl
 obtain ⟨cs1,hc1⟩:=Kd.R_typed hb g1 rfl
 have hd0 : w.drew.heap[g0]? = some (.cells cs0 9 (0,0)):=blk_drew hc0
 have f0:=blk_frozen hd0 i.toNat
 have x0' : w.cell? ⟨g0,i.toNat,none⟩ = some (.string (rdOf ByteArray.empty xs i)):=by have h:=x0;rw [add_at,Nat.zero_add] at h;exact h
 have y0 : w.drew.cell? ⟨g0,i.toNat,none⟩ = some (.string (rdOf ByteArray.empty xs i)):=x0'
 go_wp2
 go_region_held (fun w'=>w'.cell? ⟨b,0,none⟩ = some (.slice (some ⟨g0,0,none⟩) xs.length c0) ∧ w'.cell? ⟨b,2,none⟩ = some (.int .i64 i)) (go_keep) (fail)
 have hx2:=Kd.R_drew (Kd.R_put hx i text).1
 have hb2:=Kd.R_drew (Kd.R_set hb hc0 (by decide) i.toNat (.string text))
 have hk2 : ∀ k,k ≠ g0 → (w.setCell ⟨g0,i.toNat,none⟩ (.string text)).drew.heap[k]? = w.heap[k]?:=fun k hk=>Below.heap_setCell w _ _ k hk
 have hB2 : ∀ B w0,Below B w0 w → B ≤ g0 → Below B w0 (w.setCell ⟨g0,i.toNat,none⟩ (.string text)).drew:=fun B w0 h hg=>below_drew (h.setCell hg _)
 generalize (w.setCell ⟨g0,i.toNat,none⟩ (.string text)).drew = w2 at hx2 hb2 hk2 hB2 ⊢
 clear z0 z1 z2 x0 x0' y0 f0 hd0 x1
 have hbox2:=(hk2 b (Ne.symm n0)).trans hbox
 have z1 : w2.cell? ⟨b,1,none⟩ = some (.slice (some ⟨g1,0,none⟩) bs.length c1):=(blk_cell hbox2 1).trans rfl
 have z2 : w2.cell? ⟨b,2,none⟩ = some (.int .i64 i):=(blk_cell hbox2 2).trans rfl
 have hc12:=(hk2 g1 (blk_ne hc1 hc0 (by decide))).trans hc1
 have hd1 : w2.drew.heap[g1]? = some (.cells cs1 4 (0,0)):=blk_drew hc12
 have f1:=blk_frozen hd1 i.toNat
 obtain ⟨ad1,e1,x1⟩:=Kd.at_bool (Kd.R_reads' hb2).2.2 i h0 h2
 cases e1
 have y1 : w2.drew.cell? ⟨g1,i.toNat,none⟩ = some (.bool (rdOf false bs i)):=by have h:=x1;rw [add_at,Nat.zero_add] at h;exact h
 go_wp2
 go_region_held (fun w'=>w'.cell? ⟨b,1,none⟩ = some (.slice (some ⟨g1,0,none⟩) bs.length c1) ∧ w'.cell? ⟨b,2,none⟩ = some (.int .i64 i)) (go_keep) (fail)
 have hb3:=Kd.R_drew (Kd.R_put hb2 i (!text.toList.isEmpty)).1
 have hc02 : ∃ cs,w2.heap[g0]? = some (.cells cs 9 (0,0)):=Kd.R_typed hx2 g0 rfl
 have hx3:=Kd.R_drew (Kd.R_set hx2 hc12 (by decide) i.toNat (.bool (!text.toList.isEmpty)))
 have hk3 : ∀ k,k ≠ g1 → (w2.setCell ⟨g1,i.toNat,none⟩ (.bool (!text.toList.isEmpty))).drew.heap[k]? = w2.heap[k]?:=fun k hk=>Below.heap_setCell w2 _ _ k hk
 have hB3 : ∀ B w0,Below B w0 w2 → B ≤ g1 → Below B w0 (w2.setCell ⟨g1,i.toNat,none⟩ (.bool (!text.toList.isEmpty))).drew:=fun B w0 h hg=>below_drew (h.setCell hg _)
 go_end0
 exact ⟨rfl,(hk3 b (Ne.symm n1)).trans hbox2,hx3,hb3,fun k h0_ h1_=>(hk3 k h1_).trans (hk2 k h0_),fun B w0 h h0_ h1_=>hB3 B w0 (hB2 B w0 h h0_) h1_⟩
end Go.Proofs.YtjopbfidjapmbaaGreatDoor.Q
end
section
namespace Go.Proofs.YtjopbfidjapmbaaGreatDoor.Q
open Go.RowKit Go.Proofs.YtjopbfidjapmbaaGreatDoorW.PrintWords Go.Proofs.YtjopbfidjapmbaaGreatDoorW.PrintLast Go.Proofs.YtjopbfidjapmbaaGreatDoorW.PrintMore
attribute [local go_sem] max2_int min2_int max_two min_two max_three min_three max_four min_four
set_option linter.unusedVariables false
set_option linter.unusedSimpArgs false
open Go.Proofs.YtjopbfidjapmbaaGreatDoorS
theorem slices_Clone_bool_bool_info : (Tryz.prog.info? 4).map (fun i=>(i.zero,i.size,i.bytes)) = some (some (.bool false),1,1):=by kernel_rfl
def slices_Clone_bool_bool.f (l0 : List Bool) : Option (List Bool):=if l0.length < 140737488355328 then some l0 else none
set_option maxHeartbeats 8000000 in
set_option maxRecDepth 100000 in
theorem slices_Clone_bool_bool.calls (A0 : Option Addr) (c0 : Nat) (l0 : List Bool) (r : List Bool) (w : World) (hr0 : Kd.C Kd.bool w A0 l0.length l0) (hc0 : l0.length ≤ c0) (h : slices_Clone_bool_bool.f l0 = some r) :
  Calls Tryz.prog 39 #[.slice A0 l0.length c0] w fun e w'=>∃ v0_ : Value,e = .returned (v0_) ∧ Kd.R Kd.bool 4 w' w.heap.size (fun _=>True) v0_ r ∧ Below w.heap.size w w':=by
 obtain ⟨hl,rfl⟩:=guard_some h
 clear h
 cases A0 with
 | none =>
  have h0 : l0 = []:=by
   cases l0 with
   | nil=>rfl
   | cons x l=>obtain ⟨ad,e,_⟩:=hr0.2.2 (by simp);cases e
  subst h0
  have hnil:=fun (w : World) (e : TypeId) (a : Option Addr) (l c : Nat) (h : Tryz.prog.underlying 37 = some (.slice e))=>Lib.run_eql_slice_nil w 37 e a l c 0 0 h
  replace hnil:=fun (w : World) (a : Option Addr) (l c : Nat)=>hnil w _ a l c Tryz.underlying37
  go_enter Tryz.func39,Tryz.ntmps39
  go_wp2
  go_ret
  exact ⟨_,rfl,Kd.R_nil _ _ _ _ _,Below.refl _ _⟩
 | some ad =>
  have hnil:=fun (w : World) (e : TypeId) (a : Option Addr) (l c : Nat) (h : Tryz.prog.underlying 37 = some (.slice e))=>Lib.run_eql_slice_nil w 37 e a l c 0 0 h
  replace hnil:=fun (w : World) (a : Option Addr) (l c : Nat)=>hnil w _ a l c Tryz.underlying37
  have HR0:=Aside0.mk hr0
  clear hr0
  have HB:=Aside0.mk (Below.refl w.heap.size w)
  obtain ⟨y,hy⟩ : ∃ y_ : List Bool,y_ = (([] : List Bool)):=⟨_,rfl⟩
  have Ny:=Aside0.mk hy
  have hyl : y.length + l0.length < 140737488355328:=by rw [hy];simpa using hl
  have HL:=Aside0.mk hyl
  clear hyl hy hl
  go_enter Tryz.func39,Tryz.ntmps39
  go_wp2_with (first | ((with_reducible refine gate_dst (N:=5) rfl ?_);refine Kd.R_lit Kd.bool _ 4 ?hg (N:=5) ?hd (xs:=([] : List Bool)) (inner:=[]) (ok:=fun _=>True) (okp:=fun _=>True) ?hr ?hp (fun _ hk=>hk) trivial (Below.refl _ _) (Nat.le_refl _) (by simp) ?_;(case hd=>rfl);(case hg=>rfl);(case hr=>first | (go_simp;done) | (go_simp;rfl));(case hp=>exact (Reps.none _ _));intro v1 w3 ho4 hb hg_ hnew_;clear hg_ hnew_;rw [← Ny.out] at ho4;have HO:=Aside0.mk ho4;have HB2:=Aside0.mk hb;clear hb ho4) | ((with_reducible refine gate_builtin (b:=.append) (xs:=#[.tmp 5,.tmp 6]) rfl ?_);at_builtin;refine Kd.R_append_rows Kd.bool (w0:=w) w.heap.size rfl (.tmp 5) (.tmp 6) 37 4 (.bool false) 1 rfl Tryz.underlying37 slices_Clone_bool_bool_info rfl (by decide) (by omega) v1 y l0 _ _ _ (fun _=>True) (fun _=>False) rfl rfl ?aO ?aR (fun _ _ h=>h) (fun _ h=>h.elim) ?aF ?aB ?aS ?aL ?_;(case aR=>exact Kd.C_below HR0.out HB2.out);(case aB=>exact HB2.out);(case aF=>exact (fun _ _=>trivial));(case aO=>exact HO.out);(case aS=>exact HB2.out.size);(case aL=>have:=HL.out;omega);intro v2 w5 ho hb hg hat;have HB3:=Aside0.mk hb;have HO3:=Aside0.mk ho;clear hb hg hat ho))
  go_ret
  refine ⟨_,rfl,?_,HB3.out⟩
  have:=HO3.out
  rw [Ny.out,List.nil_append] at this
  exact this
end Go.Proofs.YtjopbfidjapmbaaGreatDoor.Q
end
