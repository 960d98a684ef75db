/- PART 20 OF A PROOF: Lean functions, and that the program computes them; written by hand and by a program. Not trusted: Lean checks it. -/
import Derived.Test.YtjopbfidjapmbaaGreatDoorTa15
set_option linter.unusedVariables false
set_option linter.unusedSimpArgs false
section
namespace Go.Proofs.YtjopbfidjapmbaaGreatDoor.Q
open Go.RowKit Go.Proofs.YtjopbfidjapmbaaGreatDoorW.PrintWords Go.Proofs.YtjopbfidjapmbaaGreatDoorW.PrintLast Go.Proofs.YtjopbfidjapmbaaGreatDoorW.PrintMore
set_option linter.unusedVariables false
set_option linter.unusedSimpArgs false
open Go.Proofs.YtjopbfidjapmbaaGreatDoorS
set_option maxHeartbeats 8000000 in
set_option maxRecDepth 1000000 in
theorem sheet_calls {own : Nat → Prop} {w : World} {base g : Nat} {P : Puz} {v2 v3 v4 v5 v6 vs vl vo : Value} {sh : List Sht} {log on : List Act3} (hs : SesV own w base g P v2 v3 v4 v5 v6 vs vl vo sh log on) (h1 : 0 < sh.length) (hl : sh.length ≤ 1048576) (hz : ShtS (topOf sh)) :
    Calls Tryz.prog 19 #[.pointer (some ⟨g,0,none⟩)] w fun e w'=>∃ u0 u1,e = .returned (.agg #[u0,u1,.int .i64 (topOf sh).2.2.1,.bool (topOf sh).2.2.2]) ∧ Kd.R Kd.string 9 w' w.heap.size (fun _=>True) u0 (topOf sh).1 ∧ Kd.R Kd.bool 4 w' w.heap.size (fun _=>True) u1 (topOf sh).2.1 ∧ Below w.heap.size w w':=by
  obtain ⟨As,cs,rfl,_,hC⟩:=Kd.R_reads hs.rs
  have hx:=box1 w (.cells #[.slice none 0 0,.slice none 0 0,.int .i64 0,.bool false] 57)
  replace hx:=Lib.hid hx
  have c0:=cells11 (blk_below hs.blk hx.out.2)
  have hu:=Tryz.underlying57
  have hC1:=Lib.hid (Kd.C_below hC hx.out.2)
  clear hC hs
  obtain ⟨s,hs⟩ : ∃ s,topOf sh = s:=⟨_,rfl⟩
  have tk:=fun (w1 : World)=>@topS_calls w1 g 8 cs As sh
  rw [hs] at hz tk ⊢
  clear hs
  go_enter Tryz.func19,Tryz.ntmps19
  go_wp2_with (first
    | (go_at_call 37;go_must (refine (tk _ c0.2.2.2.2.2.2.2.2.1 hC1.out h1 hl).mono ?_;rintro e w3 ⟨A7,c7,A8,c8,rfl,hS,hb⟩;have hB3:=Lib.hid (below_step hx.out.2 hb);have bT:=Lib.hid (blk_below hx.out.1 hb);have hX:=box1 w3 (.cells #[.slice A7 s.1.length c7,.slice A8 s.2.1.length c8,.int .i64 s.2.2.1,.bool s.2.2.2] 57);replace hX:=Lib.hid hX;have S5:=hS.below hX.out.2;have hB5:=below_step hB3.out hX.out.2;have T5:=blk_below bT.out hX.out.2;have B5:=hX.out.1;have x4:=cells4 hX.out.1;have f4:=frozen4 hX.out.1;clear hb hS)))
  have lt5 : w.heap.size < w3.heap.size:=blk_lt bT.out
  generalize w3.alloc (.cells #[.slice A7 s.1.length c7,.slice A8 s.2.1.length c8,.int .i64 s.2.2.1,.bool s.2.2.2] 57) = w5 at S5 hB5 T5 B5 x4 f4 ⊢
  obtain ⟨b,hb⟩ : ∃ b,w3.heap.size = b:=⟨_,rfl⟩
  rw [hb] at B5 lt5 x4 f4 ⊢
  clear hX hB3 bT hx c0 x4 f4
  refine start_ (n:=10) (S:=fun w'=>w'.cell? ⟨b,0,none⟩ = some (.slice A7 s.1.length c7) ∧ w'.cell? ⟨b,1,none⟩ = some (.slice A8 s.2.1.length c8)) (ds:=[7,9]) #[false,false,false,false,false,false,false,false,false,false] (by kernel_rfl) rfl rfl (⟨(cells4 (blk_drew B5)).1,(cells4 (blk_drew B5)).2.1⟩) (fun hHeld=>?_)
  replace B5:=blk_drew B5
  replace T5:=blk_drew T5
  replace hB5:=below_drew hB5
  replace S5:=S5.below (below_drew (Below.refl _ _))
  generalize w5.drew = w6 at B5 T5 hB5 S5 hHeld ⊢
  refine pure_ (i:=0) (N:=some 11) (v:=?_) (a':=?_) #[true,false,false,false,false,false,false,false,false,false] rfl rfl (by kernel_rfl) (fun _ _ _ h=>h) (Or.inl ⟨by rfl,?_⟩) ?_ ?_
  rotate_left
  · intro w';go_simp;with_reducible rfl
  rotate_left
  · simp only [Act.put,List.setIfInBounds_toArray,List.set_cons_zero,List.set_cons_succ,i64_w,i32_w];rfl
  refine pure_ (i:=3) (N:=some 14) (v:=?_) (a':=?_) #[true,false,false,true,false,false,false,false,false,false] rfl rfl (by kernel_rfl) (fun _ _ _ h=>h) (Or.inl ⟨by rfl,?_⟩) ?_ ?_
  rotate_left
  · intro w';go_simp;with_reducible rfl
  rotate_left
  · simp only [Act.put,List.setIfInBounds_toArray,List.set_cons_zero,List.set_cons_succ,i64_w,i32_w];rfl
  refine take_ (i:=1) (N:=some 12) (v:=?_) (a':=?_) #[true,true,false,true,false,false,false,false,false,false] rfl rfl (by kernel_rfl) (fun _ _ _ h=>h) (Or.inl ⟨by rfl,?_⟩) hHeld ?_ ?_
  rotate_left
  · rintro w' ⟨s0,s1⟩;go_simp;with_reducible rfl
  rotate_left
  · simp only [Act.put,List.setIfInBounds_toArray,List.set_cons_zero,List.set_cons_succ,i64_w,i32_w];rfl
  refine take_ (i:=4) (N:=some 15) (v:=?_) (a':=?_) #[true,true,false,true,true,false,false,false,false,false] rfl rfl (by kernel_rfl) (fun _ _ _ h=>h) (Or.inl ⟨by rfl,?_⟩) hHeld ?_ ?_
  rotate_left
  · rintro w' ⟨s0,s1⟩;go_simp;with_reducible rfl
  rotate_left
  · simp only [Act.put,List.setIfInBounds_toArray,List.set_cons_zero,List.set_cons_succ,i64_w,i32_w];rfl
  refine one_ (i:=2) (N:=some 13) #[true,true,true,true,true,false,false,false,false,false] rfl rfl (by kernel_rfl) (by decide) (fun K hK=>?_)
  refine goes_ Tryz.func38 (by kernel_rfl) rfl #[.slice A7 s.1.length c7] (by rfl) rfl rfl (by first | (go_simp;done) | (go_simp;rfl)) ?_
  refine (slices_Clone_string_string.calls _ _ _ s.1 _ S5.r7 S5.k7 (by unfold slices_Clone_string_string.f;rw [if_pos (by have:=hz.l;have:=hz.m;omega)])).mono ?_
  rintro e w7 ⟨u0,rfl,ho0,hb7⟩
  have R0:=Kd.R_lower ho0 hB5.size
  have B7:=blk_below B5 hb7
  have T7:=blk_below T5 hb7
  have hB7:=below_step hB5 hb7
  have S7:=S5.below hb7
  clear hb7 ho0
  refine ⟨_,rfl,?_⟩
  refine hK.out _ _ (⟨(cells4 B7).1,(cells4 B7).2.1⟩) (fun hHeld=>?_)
  clear hK K
  refine norm_ (a':=?_) ?_ ?_
  rotate_left
  · show Act.put _ (some 13) _ = _
    simp only [Act.put,List.setIfInBounds_toArray,List.set_cons_zero,List.set_cons_succ,i64_w,i32_w];rfl
  refine pure_ (i:=6) (N:=some 17) (v:=?_) (a':=?_) #[true,true,true,true,true,false,true,false,false,false] rfl rfl (by kernel_rfl) (fun _ _ _ h=>h) (Or.inl ⟨by rfl,?_⟩) ?_ ?_
  rotate_left
  · intro w';go_simp;with_reducible rfl
  rotate_left
  · simp only [Act.put,List.setIfInBounds_toArray,List.set_cons_zero,List.set_cons_succ,i64_w,i32_w];rfl
  refine one_ (i:=5) (N:=some 16) #[true,true,true,true,true,true,true,false,false,false] rfl rfl (by kernel_rfl) (by decide) (fun K hK=>?_)
  refine goes_ Tryz.func39 (by kernel_rfl) rfl #[.slice A8 s.2.1.length c8] (by rfl) rfl rfl (by first | (go_simp;done) | (go_simp;rfl)) ?_
  refine (slices_Clone_bool_bool.calls _ _ _ s.2.1 _ S7.r8 S7.k8 (by unfold slices_Clone_bool_bool.f;rw [if_pos (by have:=hz.l;have:=hz.m;omega)])).mono ?_
  rintro e w8 ⟨u1,rfl,ho1,hb8⟩
  have R1:=Kd.R_lower ho1 hB7.size
  replace R0:=Kd.R_below R0 hb8
  have B8:=blk_below B7 hb8
  have T8:=blk_below T7 hb8
  have hB8:=below_step hB7 hb8
  clear hb8 ho1
  refine ⟨_,rfl,?_⟩
  refine hK.out _ _ (⟨(cells4 B8).1,(cells4 B8).2.1⟩) (fun hHeld=>?_)
  clear hK K
  refine norm_ (a':=?_) ?_ ?_
  rotate_left
  · show Act.put _ (some 16) _ = _
    simp only [Act.put,List.setIfInBounds_toArray,List.set_cons_zero,List.set_cons_succ,i64_w,i32_w];rfl
  obtain ⟨D0,k0,rfl⟩:=Kd.R_slice R0
  obtain ⟨D1,k1,rfl⟩:=Kd.R_slice R1
  refine last_ (i:=7) (N:=none) #[true,true,true,true,true,true,true,true,false,false] rfl rfl (by kernel_rfl) (by decide) (fun K hK=>?_)
  have F:=frozen4 B8
  have C:=cells4 B8
  have E8:=one_facts (i:=0) (cs':=#[.slice D0 s.1.length k0,.slice A8 s.2.1.length c8,.int .i64 s.2.2.1,.bool s.2.2.2]) B8 (.slice D0 s.1.length k0) rfl
  refine skip_ (w1:=w8.setCell ⟨b,0,none⟩ (.slice D0 s.1.length k0)) (by rfl) rfl (by first | (go_simp;done) | (go_simp;rfl)) ?_
  generalize w8.setCell ⟨b,0,none⟩ (.slice D0 s.1.length k0) = w9 at E8 ⊢
  clear F C
  refine hK.out _ _ ?_
  clear hK K
  refine pure_ (i:=8) (N:=some 18) (v:=?_) (a':=?_) #[true,true,true,true,true,true,true,true,true,false] rfl rfl (by kernel_rfl) (fun _ _ _ h=>h) (Or.inl ⟨by rfl,?_⟩) ?_ ?_
  rotate_left
  · intro w';go_simp;with_reducible rfl
  rotate_left
  · simp only [Act.put,List.setIfInBounds_toArray,List.set_cons_zero,List.set_cons_succ,i64_w,i32_w];rfl
  refine last_ (i:=9) (N:=none) #[true,true,true,true,true,true,true,true,true,true] rfl rfl (by kernel_rfl) (by decide) (fun K hK=>?_)
  have F:=frozen4 E8.1
  have C:=cells4 E8.1
  have E9:=one_facts (i:=1) (cs':=#[.slice D0 s.1.length k0,.slice D1 s.2.1.length k1,.int .i64 s.2.2.1,.bool s.2.2.2]) E8.1 (.slice D1 s.2.1.length k1) rfl
  refine skip_ (w1:=w9.setCell ⟨b,1,none⟩ (.slice D1 s.2.1.length k1)) (by rfl) rfl (by first | (go_simp;done) | (go_simp;rfl)) ?_
  generalize w9.setCell ⟨b,1,none⟩ (.slice D1 s.2.1.length k1) = w10 at E9 ⊢
  clear F C
  refine hK.out _ _ ?_
  clear hK K
  refine done_ (by kernel_rfl) ?_
  have T10:=(E9.2.1 w.heap.size (by omega)).trans ((E8.2.1 w.heap.size (by omega)).trans T8)
  have hk:=fun k (h : k ≠ b)=>(E9.2.1 k h).trans (E8.2.1 k h)
  have hB10:=E9.2.2 _ _ (E8.2.2 _ _ hB8 (by omega)) (by omega)
  have c10:=cells4 E9.1
  have t10:=cells4 T10
  have f10:=frozen4 T10
  have R0':=R_of_heap R0 B8 (by decide) hk
  have R1':=R_of_heap R1 B8 (by decide) hk
  clear R0 R1 hk E8
  go_wp2_with (first
    | ((with_reducible refine gate_store (t:=57) (p:=2) (v:=.tmp 19) rfl ?_);go_must (refine store_event (w1:=put4 w10 w.heap.size (.slice D0 s.1.length k0) (.slice D1 s.2.1.length k1) (.int .i64 s.2.2.1) (.bool s.2.2.2)) (by rfl) (by rfl) (by rfl) ?hr ?_;(case hr=>first | (go_simp;done) | (go_simp;rfl));intro w11 h_;have F11:=put4_facts T10 (.slice D0 s.1.length k0) (.slice D1 s.2.1.length k1) (.int .i64 s.2.2.1) (.bool s.2.2.2);rw [← h_] at F11;clear h_)))
  refine bodyPost_ret (results_cell_row rfl _ _ w.heap.size 57 #[.slice D0 s.1.length k0,.slice D1 s.2.1.length k1,.int .i64 s.2.2.1,.bool s.2.2.2] (0,0) _ rfl F11.1 Tryz.underlying57 rfl (by kernel_rfl)) rfl ?_
  exact ⟨_,_,rfl,R_of_heap R0' T10 (by decide) F11.2.1,R_of_heap R1' T10 (by decide) F11.2.1,F11.2.2 _ _ hB10 (Nat.le_refl _)⟩
set_option maxHeartbeats 8000000 in
set_option maxRecDepth 1000000 in
theorem log_calls {own : Nat → Prop} {w : World} {base g : Nat} {P : Puz} {v2 v3 v4 v5 v6 vs vl vo : Value} {sh : List Sht} {log on : List Act3} (hs : SesV own w base g P v2 v3 v4 v5 v6 vs vl vo sh log on) (hl : log.length ≤ 1048576) :
    Calls Tryz.prog 16 #[.pointer (some ⟨g,0,none⟩)] w fun e w'=>∃ u,e = .returned u ∧ Kd.R kAct 35 w' w.heap.size (fun _=>True) u log ∧ Below w.heap.size w w':=by
  obtain ⟨Al,cl,rfl,hk,hC⟩:=Kd.R_reads hs.rl
  have c0:=cells11 hs.blk
  replace hC:=Lib.hid hC
  replace hk:=Lib.hid hk
  clear hs
  go_enter Tryz.func16,Tryz.ntmps16
  go_wp2_with (go_at_call 35;go_must (refine (cloneA_calls hC.out hk.out (by omega)).mono ?_;rintro e w3 ⟨u,rfl,hr,hb⟩))
  go_ret
  exact ⟨_,rfl,hr,hb⟩
set_option maxHeartbeats 8000000 in
set_option maxRecDepth 1000000 in
theorem on_calls {own : Nat → Prop} {w : World} {base g : Nat} {P : Puz} {v2 v3 v4 v5 v6 vs vl vo : Value} {sh : List Sht} {log on : List Act3} (hs : SesV own w base g P v2 v3 v4 v5 v6 vs vl vo sh log on) :
    Calls Tryz.prog 20 #[.pointer (some ⟨g,0,none⟩)] w fun e w'=>e = .returned (.int .i64 on.length) ∧ Below w.heap.size w w':=by
  obtain ⟨Ao,co,rfl,hk,hC⟩:=Kd.R_reads hs.ro
  have c0:=cells11 hs.blk
  clear hs hC
  go_enter Tryz.func20,Tryz.ntmps20
  go_wp2
  go_ret
  exact ⟨rfl,Below.refl _ _⟩
end Go.Proofs.YtjopbfidjapmbaaGreatDoor.Q
end
section
namespace Go.Proofs.YtjopbfidjapmbaaGreatDoor.Q
open Go.RowKit Go.Proofs.YtjopbfidjapmbaaGreatDoorW.PrintWords Go.Proofs.YtjopbfidjapmbaaGreatDoorW.PrintLast Go.Proofs.YtjopbfidjapmbaaGreatDoorW.PrintMore
set_option linter.unusedVariables false
set_option linter.unusedSimpArgs false
open Go.Proofs.YtjopbfidjapmbaaGreatDoorS
set_option maxHeartbeats 8000000 in
set_option maxRecDepth 1000000 in
theorem act_calls {own : Nat → Prop} {w : World} {base g : Nat} {P : Puz} {v2 v3 v4 v5 v6 vs vl vo : Value} {sh : List Sht} {log on : List Act3} {a : Act3} (hT : Tabs w) (hs : SesV own w base g P v2 v3 v4 v5 v6 vs vl vo sh log on) (h1 : 0 < sh.length) (hl : sh.length ≤ 1000000) (hl2 : log.length ≤ 1000000) (hz : PuzS P.t P.cells P.clues) (hzs : Small (topOf sh).1) (hzt : a.f2.size ≤ 1048576) :
    Calls Tryz.prog 31 #[.pointer (some ⟨g,0,none⟩),.agg #[.int .i64 a.f0,.int .i64 a.f1,.string a.f2]] w fun e w'=>e = .returned (.int .i64 (sAct P ⟨sh,log,on⟩ a).2) ∧ SesOut own w base g P (sAct P ⟨sh,log,on⟩ a).1 w':=by
  obtain ⟨A2,c2,A3,c3,A4,c4,A5,c5,A6,c6,rfl,rfl,rfl,rfl,rfl,hP⟩:=hs.puz
  obtain ⟨As,cs,rfl,_,hC⟩:=Kd.R_reads hs.rs
  obtain ⟨V,hV⟩ : ∃ V,sAct P ⟨sh,log,on⟩ a = V:=⟨_,rfl⟩
  have hv : V = if (doP P (topOf sh) a).2 = 0 then (⟨sh ++ [(doP P (topOf sh) a).1],log ++ [a],on⟩,0) else (⟨sh,log,on⟩,(doP P (topOf sh) a).2):=by rw [← hV];rfl
  rw [hV]
  clear hV
  obtain ⟨s,hs0⟩ : ∃ s,topOf sh = s:=⟨_,rfl⟩
  have tk:=fun (w1 : World)=>@topS_calls w1 g 8 cs As sh
  rw [hs0] at hzs tk hv
  clear hs0
  obtain ⟨r,hr⟩ : ∃ r,doOf P.t P.H P.W P.bl P.ri P.be P.cells P.clues s.1 s.2.1 s.2.2.1 s.2.2.2 a.f0 a.f1 a.f2 = r:=⟨_,rfl⟩
  have hd : doP P s a = ((r.1,r.2.1,r.2.2.1,r.2.2.2.1),r.2.2.2.2):=by rw [← hr];rfl
  rw [hd] at hv
  clear hd
  replace hr:=Lib.hid hr
  replace hv:=Lib.hid hv
  have hbs : base ≤ w.heap.size:=Nat.le_trans hs.ge (Nat.le_of_lt (blk_lt hs.blk))
  have hgl:=blk_lt hs.blk
  go_enter Tryz.func31,Tryz.ntmps31
  go_wp2
  have X1:=blk_drew (blk_new w (.cells #[.int .i64 a.f0,.int .i64 a.f1,.string a.f2] 35))
  have hB1:=below_drew (below_alloc (Below.refl w.heap.size w) (.cells #[.int .i64 a.f0,.int .i64 a.f1,.string a.f2] 35))
  have G1:=blk_below hs.blk hB1
  have C1:=Kd.C_below hC hB1
  have P1:=hP.below hB1
  have T1:=tabs_below hT hB1
  clear hC hP
  refine start_ (n:=16) (S:=fun w'=>w'.heap[g]? = some (.cells #[.string P.t,.int .i64 P.H,.int .i64 P.W,.slice A2 P.bl.length c2,.slice A3 P.ri.length c3,.slice A4 P.be.length c4,.slice A5 P.cells.length c5,.slice A6 P.clues.length c6,.slice As sh.length cs,vl,vo] 85 (0,0)) ∧ w'.heap[w.heap.size]? = some (.cells #[.int .i64 a.f0,.int .i64 a.f1,.string a.f2] 35 (0,0))) (ds:=[]) #[false,false,false,false,false,false,false,false,false,false,false,false,false,false,false,false] (by kernel_rfl) rfl rfl (⟨G1,X1⟩) (fun hHeld=>?_)
  generalize (w.alloc (.cells #[.int .i64 a.f0,.int .i64 a.f1,.string a.f2] 35)).drew = w1 at X1 hB1 G1 C1 P1 T1 hHeld ⊢
  refine pure_ (i:=0) (N:=some 8) (v:=?_) (a':=?_) #[true,false,false,false,false,false,false,false,false,false,false,false,false,false,false,false] rfl rfl (by kernel_rfl) (fun _ _ _ h=>h) (Or.inl ⟨by rfl,?_⟩) ?_ ?_
  rotate_left
  · intro w';go_simp;with_reducible rfl
  rotate_left
  · simp only [Act.put,List.setIfInBounds_toArray,List.set_cons_zero,List.set_cons_succ,i64_w,i32_w];rfl
  refine pure_ (i:=1) (N:=some 9) (v:=?_) (a':=?_) #[true,true,false,false,false,false,false,false,false,false,false,false,false,false,false,false] rfl rfl (by kernel_rfl) (fun _ _ _ h=>h) (Or.inl ⟨by rfl,?_⟩) ?_ ?_
  rotate_left
  · intro w';go_simp;with_reducible rfl
  rotate_left
  · simp only [Act.put,List.setIfInBounds_toArray,List.set_cons_zero,List.set_cons_succ,i64_w,i32_w];rfl
  refine pure_ (i:=2) (N:=some 10) (v:=?_) (a':=?_) #[true,true,true,false,false,false,false,false,false,false,false,false,false,false,false,false] rfl rfl (by kernel_rfl) (fun _ _ _ h=>h) (Or.inl ⟨by rfl,?_⟩) ?_ ?_
  rotate_left
  · intro w';go_simp;with_reducible rfl
  rotate_left
  · simp only [Act.put,List.setIfInBounds_toArray,List.set_cons_zero,List.set_cons_succ,i64_w,i32_w];rfl
  refine pure_ (i:=4) (N:=some 12) (v:=?_) (a':=?_) #[true,true,true,false,true,false,false,false,false,false,false,false,false,false,false,false] rfl rfl (by kernel_rfl) (fun _ _ _ h=>h) (Or.inl ⟨by rfl,?_⟩) ?_ ?_
  rotate_left
  · intro w';go_simp;with_reducible rfl
  rotate_left
  · simp only [Act.put,List.setIfInBounds_toArray,List.set_cons_zero,List.set_cons_succ,i64_w,i32_w];rfl
  refine pure_ (i:=5) (N:=some 13) (v:=?_) (a':=?_) #[true,true,true,false,true,true,false,false,false,false,false,false,false,false,false,false] rfl rfl (by kernel_rfl) (fun _ _ _ h=>h) (Or.inl ⟨by rfl,?_⟩) ?_ ?_
  rotate_left
  · intro w';go_simp;with_reducible rfl
  rotate_left
  · simp only [Act.put,List.setIfInBounds_toArray,List.set_cons_zero,List.set_cons_succ,i64_w,i32_w];rfl
  refine pure_ (i:=6) (N:=some 14) (v:=?_) (a':=?_) #[true,true,true,false,true,true,true,false,false,false,false,false,false,false,false,false] rfl rfl (by kernel_rfl) (fun _ _ _ h=>h) (Or.inl ⟨by rfl,?_⟩) ?_ ?_
  rotate_left
  · intro w';go_simp;with_reducible rfl
  rotate_left
  · simp only [Act.put,List.setIfInBounds_toArray,List.set_cons_zero,List.set_cons_succ,i64_w,i32_w];rfl
  refine take_ (i:=3) (N:=some 11) (v:=?_) (a':=?_) #[true,true,true,true,true,true,true,false,false,false,false,false,false,false,false,false] rfl rfl (by kernel_rfl) (fun _ _ _ h=>h) (Or.inl ⟨by rfl,?_⟩) hHeld ?_ ?_
  rotate_left
  · rintro w' ⟨s0,s1⟩;have q0:=cells11 s0;have q1:=cells3 s1;clear s0 s1;go_simp;with_reducible rfl
  rotate_left
  · simp only [Act.put,List.setIfInBounds_toArray,List.set_cons_zero,List.set_cons_succ,i64_w,i32_w];rfl
  refine take_ (i:=8) (N:=some 16) (v:=?_) (a':=?_) #[true,true,true,true,true,true,true,false,true,false,false,false,false,false,false,false] rfl rfl (by kernel_rfl) (fun _ _ _ h=>h) (Or.inl ⟨by rfl,?_⟩) hHeld ?_ ?_
  rotate_left
  · rintro w' ⟨s0,s1⟩;have q0:=cells11 s0;have q1:=cells3 s1;clear s0 s1;go_simp;with_reducible rfl
  rotate_left
  · simp only [Act.put,List.setIfInBounds_toArray,List.set_cons_zero,List.set_cons_succ,i64_w,i32_w];rfl
  refine join_ (σ:=Value × Value × Value × Nat) 2 #[true,true,true,true,true,true,true,true,true,true,true,true,true,true,false,false] (fun s=>[(15,s.1),(17,.tuple #[.agg #[s.2.1,s.2.2.1,.int .i64 r.2.2.1,.bool r.2.2.2.1],.int .i64 r.2.2.2.2]),(7,.tuple #[.agg #[s.2.1,s.2.2.1,.int .i64 r.2.2.1,.bool r.2.2.2.1],.int .i64 r.2.2.2.2]),(18,.agg #[s.2.1,s.2.2.1,.int .i64 r.2.2.1,.bool r.2.2.2.1]),(19,.int .i64 r.2.2.2.2),(5,.pointer (some ⟨s.2.2.2,0,none⟩))]) (fun s w'=>Below w.heap.size w w' ∧ w'.heap[w.heap.size]? = some (.cells #[.int .i64 a.f0,.int .i64 a.f1,.string a.f2] 35 (0,0)) ∧ w.heap.size < s.2.2.2 ∧ w'.heap[s.2.2.2]? = some (.cells #[.slice none 0 0,.slice none 0 0,.int .i64 0,.bool false] 57 (0,0)) ∧ Kd.R Kd.string 9 w' w.heap.size (fun _=>True) s.2.1 r.1 ∧ Kd.R Kd.bool 4 w' w.heap.size (fun _=>True) s.2.2.1 r.2.1) ?_ ?_
  rotate_left
  · intro hCont
    have hB_:=hB1
    have G_:=G1
    have X_:=X1
    have C_:=C1
    have P_:=P1
    have T_:=T1
    clear hB1 G1 X1 C1 P1 T1
    refine two_ (i:=7) (j:=13) (Ni:=some 15) (Nj:=some 5) #[true,true,true,true,true,true,true,true,true,false,false,false,false,false,false,false] #[true,true,true,true,true,true,true,false,true,false,false,false,false,true,false,false] rfl rfl rfl rfl (by kernel_rfl) (by decide) (by decide) (fun K hK=>?_) (fun K hK=>?_)
    · skip
      refine goes_ Tryz.func37 (by kernel_rfl) rfl #[.pointer (some ⟨g,8,none⟩)] (by rfl) rfl rfl (by first | (go_simp;done) | (go_simp;rfl)) ?_
      refine (tk _ (cells11 G_).2.2.2.2.2.2.2.2.1 C_ h1 (by omega)).mono ?_
      rintro e wx1 ⟨A7,c7,A8,c8,rfl,hS,hb⟩
      refine ⟨_,rfl,?_⟩
      replace hB_:=below_step hB_ hb
      replace G_:=blk_below G_ hb
      replace X_:=blk_below X_ hb
      replace C_:=Kd.C_below C_ hb
      replace P_:=P_.below hb
      replace T_:=tabs_below T_ hb
      clear hb
      refine hK.out _ _ (⟨G_,X_⟩) (fun hHeld=>?_)
      clear hK K
      refine norm_ (a':=?_) ?_ ?_
      rotate_left
      · show Act.put _ (some 15) _ = _
        simp only [Act.put,List.setIfInBounds_toArray,List.set_cons_zero,List.set_cons_succ,i64_w,i32_w];rfl
      refine two_ (i:=9) (j:=13) (Ni:=some 17) (Nj:=some 5) #[true,true,true,true,true,true,true,true,true,true,false,false,false,false,false,false] #[true,true,true,true,true,true,true,true,true,false,false,false,false,true,false,false] rfl rfl rfl rfl (by kernel_rfl) (by decide) (by decide) (fun K hK=>?_) (fun K hK=>?_)
      · skip
        refine goes_ Tryz.func51 (by kernel_rfl) rfl #[.agg #[.string P.t,.int .i64 P.H,.int .i64 P.W,.slice A2 P.bl.length c2,.slice A3 P.ri.length c3,.slice A4 P.be.length c4,.slice A5 P.cells.length c5,.slice A6 P.clues.length c6],.agg #[.slice A7 s.1.length c7,.slice A8 s.2.1.length c8,.int .i64 s.2.2.1,.bool s.2.2.2],.agg #[.int .i64 a.f0,.int .i64 a.f1,.string a.f2]] (by rfl) rfl rfl (by first | (go_simp;done) | (go_simp;rfl)) ?_
        refine (sheet_Do.calls T_ P_ hS hz hzs hzt).mono ?_
        rw [hr.out]
        rintro e wx2 ⟨u0,u1,rfl,ho0,ho1,hb⟩
        refine ⟨_,rfl,?_⟩
        have R0:=Kd.R_lower ho0 hB_.size
        have R1:=Kd.R_lower ho1 hB_.size
        clear ho0 ho1
        replace hB_:=below_step hB_ hb
        replace G_:=blk_below G_ hb
        replace X_:=blk_below X_ hb
        replace C_:=Kd.C_below C_ hb
        replace P_:=P_.below hb
        replace T_:=tabs_below T_ hb
        replace hS:=hS.below hb
        clear hb
        refine hK.out _ _ (⟨G_,X_⟩) (fun hHeld=>?_)
        clear hK K
        refine norm_ (a':=?_) ?_ ?_
        rotate_left
        · show Act.put _ (some 17) _ = _
          simp only [Act.put,List.setIfInBounds_toArray,List.set_cons_zero,List.set_cons_succ,i64_w,i32_w];rfl
        refine pure_ (i:=10) (N:=some 7) (v:=?_) (a':=?_) #[true,true,true,true,true,true,true,true,true,true,true,false,false,false,false,false] rfl rfl (by kernel_rfl) (fun _ _ _ h=>h) (Or.inl ⟨by rfl,?_⟩) ?_ ?_
        rotate_left
        · intro w';go_simp;with_reducible rfl
        rotate_left
        · simp only [Act.put,List.setIfInBounds_toArray,List.set_cons_zero,List.set_cons_succ,i64_w,i32_w];rfl
        refine pure_ (i:=11) (N:=some 18) (v:=?_) (a':=?_) #[true,true,true,true,true,true,true,true,true,true,true,true,false,false,false,false] rfl rfl (by kernel_rfl) (fun _ _ _ h=>h) (Or.inl ⟨by rfl,?_⟩) ?_ ?_
        rotate_left
        · intro w';go_simp;with_reducible rfl
        rotate_left
        · simp only [Act.put,List.setIfInBounds_toArray,List.set_cons_zero,List.set_cons_succ,i64_w,i32_w];rfl
        refine pure_ (i:=12) (N:=some 19) (v:=?_) (a':=?_) #[true,true,true,true,true,true,true,true,true,true,true,true,true,false,false,false] rfl rfl (by kernel_rfl) (fun _ _ _ h=>h) (Or.inl ⟨by rfl,?_⟩) ?_ ?_
        rotate_left
        · intro w';go_simp;with_reducible rfl
        rotate_left
        · simp only [Act.put,List.setIfInBounds_toArray,List.set_cons_zero,List.set_cons_succ,i64_w,i32_w];rfl
        refine one_ (i:=13) (N:=some 5) #[true,true,true,true,true,true,true,true,true,true,true,true,true,true,false,false] rfl rfl (by kernel_rfl) (by decide) (fun K hK=>?_)
        refine value_ (w1:=wx2.alloc (.cells #[.slice none 0 0,.slice none 0 0,.int .i64 0,.bool false] 57)) (v:=.pointer (some ⟨wx2.heap.size,0,none⟩)) (by rfl) rfl (by first | (go_simp;done) | (go_simp;rfl)) ?_
        have hb:=below_alloc (Below.refl wx2.heap.size wx2) (.cells #[.slice none 0 0,.slice none 0 0,.int .i64 0,.bool false] 57)
        have Z_:=blk_new wx2 (.cells #[.slice none 0 0,.slice none 0 0,.int .i64 0,.bool false] 57)
        have ltb : w.heap.size < wx2.heap.size:=blk_lt X_
        obtain ⟨b5,hb5⟩ : ∃ b5,wx2.heap.size = b5:=⟨_,rfl⟩
        rw [hb5] at Z_ ltb
        generalize wx2.alloc (.cells #[.slice none 0 0,.slice none 0 0,.int .i64 0,.bool false] 57) = wx3 at hb Z_ ⊢
        rw [hb5]
        replace hB_:=below_step hB_ hb
        replace G_:=blk_below G_ hb
        replace X_:=blk_below X_ hb
        replace C_:=Kd.C_below C_ hb
        replace P_:=P_.below hb
        replace T_:=tabs_below T_ hb
        replace R0:=Kd.R_below R0 hb
        replace R1:=Kd.R_below R1 hb
        replace hS:=hS.below hb
        clear hb
        refine hK.out _ _ (⟨G_,X_⟩) (fun hHeld=>?_)
        clear hK K
        refine norm_ (a':=?_) ?_ ?_
        rotate_left
        · show Act.put _ (some 5) _ = _
          simp only [Act.put,List.setIfInBounds_toArray,List.set_cons_zero,List.set_cons_succ,i64_w,i32_w];rfl
        exact norm_ (by simp only [putAll,Act.put,List.setIfInBounds_toArray,List.set_cons_zero,List.set_cons_succ]) (hCont (.agg #[.slice A7 s.1.length c7,.slice A8 s.2.1.length c8,.int .i64 s.2.2.1,.bool s.2.2.2],u0,u1,b5) _ ⟨hB_,X_,ltb,Z_,R0,R1⟩)
      · skip
        refine value_ (w1:=wx1.alloc (.cells #[.slice none 0 0,.slice none 0 0,.int .i64 0,.bool false] 57)) (v:=.pointer (some ⟨wx1.heap.size,0,none⟩)) (by rfl) rfl (by first | (go_simp;done) | (go_simp;rfl)) ?_
        have hb:=below_alloc (Below.refl wx1.heap.size wx1) (.cells #[.slice none 0 0,.slice none 0 0,.int .i64 0,.bool false] 57)
        have Z_:=blk_new wx1 (.cells #[.slice none 0 0,.slice none 0 0,.int .i64 0,.bool false] 57)
        have ltb : w.heap.size < wx1.heap.size:=blk_lt X_
        obtain ⟨b5,hb5⟩ : ∃ b5,wx1.heap.size = b5:=⟨_,rfl⟩
        rw [hb5] at Z_ ltb
        generalize wx1.alloc (.cells #[.slice none 0 0,.slice none 0 0,.int .i64 0,.bool false] 57) = wx4 at hb Z_ ⊢
        rw [hb5]
        replace hB_:=below_step hB_ hb
        replace G_:=blk_below G_ hb
        replace X_:=blk_below X_ hb
        replace C_:=Kd.C_below C_ hb
        replace P_:=P_.below hb
        replace T_:=tabs_below T_ hb
        replace hS:=hS.below hb
        clear hb
        refine hK.out _ _ (⟨G_,X_⟩) (fun hHeld=>?_)
        clear hK K
        refine norm_ (a':=?_) ?_ ?_
        rotate_left
        · show Act.put _ (some 5) _ = _
          simp only [Act.put,List.setIfInBounds_toArray,List.set_cons_zero,List.set_cons_succ,i64_w,i32_w];rfl
        refine one_ (i:=9) (N:=some 17) #[true,true,true,true,true,true,true,true,true,true,false,false,false,true,false,false] rfl rfl (by kernel_rfl) (by decide) (fun K hK=>?_)
        refine goes_ Tryz.func51 (by kernel_rfl) rfl #[.agg #[.string P.t,.int .i64 P.H,.int .i64 P.W,.slice A2 P.bl.length c2,.slice A3 P.ri.length c3,.slice A4 P.be.length c4,.slice A5 P.cells.length c5,.slice A6 P.clues.length c6],.agg #[.slice A7 s.1.length c7,.slice A8 s.2.1.length c8,.int .i64 s.2.2.1,.bool s.2.2.2],.agg #[.int .i64 a.f0,.int .i64 a.f1,.string a.f2]] (by rfl) rfl rfl (by first | (go_simp;done) | (go_simp;rfl)) ?_
        refine (sheet_Do.calls T_ P_ hS hz hzs hzt).mono ?_
        rw [hr.out]
        rintro e wx5 ⟨u0,u1,rfl,ho0,ho1,hb⟩
        refine ⟨_,rfl,?_⟩
        have R0:=Kd.R_lower ho0 hB_.size
        have R1:=Kd.R_lower ho1 hB_.size
        clear ho0 ho1
        replace hB_:=below_step hB_ hb
        replace G_:=blk_below G_ hb
        replace X_:=blk_below X_ hb
        replace C_:=Kd.C_below C_ hb
        replace P_:=P_.below hb
        replace T_:=tabs_below T_ hb
        replace hS:=hS.below hb
        replace Z_:=blk_below Z_ hb
        clear hb
        refine hK.out _ _ (⟨G_,X_⟩) (fun hHeld=>?_)
        clear hK K
        refine norm_ (a':=?_) ?_ ?_
        rotate_left
        · show Act.put _ (some 17) _ = _
          simp only [Act.put,List.setIfInBounds_toArray,List.set_cons_zero,List.set_cons_succ,i64_w,i32_w];rfl
        refine pure_ (i:=10) (N:=some 7) (v:=?_) (a':=?_) #[true,true,true,true,true,true,true,true,true,true,true,false,false,true,false,false] rfl rfl (by kernel_rfl) (fun _ _ _ h=>h) (Or.inl ⟨by rfl,?_⟩) ?_ ?_
        rotate_left
        · intro w';go_simp;with_reducible rfl
        rotate_left
        · simp only [Act.put,List.setIfInBounds_toArray,List.set_cons_zero,List.set_cons_succ,i64_w,i32_w];rfl
        refine pure_ (i:=11) (N:=some 18) (v:=?_) (a':=?_) #[true,true,true,true,true,true,true,true,true,true,true,true,false,true,false,false] rfl rfl (by kernel_rfl) (fun _ _ _ h=>h) (Or.inl ⟨by rfl,?_⟩) ?_ ?_
        rotate_left
        · intro w';go_simp;with_reducible rfl
        rotate_left
        · simp only [Act.put,List.setIfInBounds_toArray,List.set_cons_zero,List.set_cons_succ,i64_w,i32_w];rfl
        refine pure_ (i:=12) (N:=some 19) (v:=?_) (a':=?_) #[true,true,true,true,true,true,true,true,true,true,true,true,true,true,false,false] rfl rfl (by kernel_rfl) (fun _ _ _ h=>h) (Or.inl ⟨by rfl,?_⟩) ?_ ?_
        rotate_left
        · intro w';go_simp;with_reducible rfl
        rotate_left
        · simp only [Act.put,List.setIfInBounds_toArray,List.set_cons_zero,List.set_cons_succ,i64_w,i32_w];rfl
        exact norm_ (by simp only [putAll,Act.put,List.setIfInBounds_toArray,List.set_cons_zero,List.set_cons_succ]) (hCont (.agg #[.slice A7 s.1.length c7,.slice A8 s.2.1.length c8,.int .i64 s.2.2.1,.bool s.2.2.2],u0,u1,b5) _ ⟨hB_,X_,ltb,Z_,R0,R1⟩)
    · skip
      refine value_ (w1:=w1.alloc (.cells #[.slice none 0 0,.slice none 0 0,.int .i64 0,.bool false] 57)) (v:=.pointer (some ⟨w1.heap.size,0,none⟩)) (by rfl) rfl (by first | (go_simp;done) | (go_simp;rfl)) ?_
      have hb:=below_alloc (Below.refl w1.heap.size w1) (.cells #[.slice none 0 0,.slice none 0 0,.int .i64 0,.bool false] 57)
      have Z_:=blk_new w1 (.cells #[.slice none 0 0,.slice none 0 0,.int .i64 0,.bool false] 57)
      have ltb : w.heap.size < w1.heap.size:=blk_lt X_
      obtain ⟨b5,hb5⟩ : ∃ b5,w1.heap.size = b5:=⟨_,rfl⟩
      rw [hb5] at Z_ ltb
      generalize w1.alloc (.cells #[.slice none 0 0,.slice none 0 0,.int .i64 0,.bool false] 57) = wx6 at hb Z_ ⊢
      rw [hb5]
      replace hB_:=below_step hB_ hb
      replace G_:=blk_below G_ hb
      replace X_:=blk_below X_ hb
      replace C_:=Kd.C_below C_ hb
      replace P_:=P_.below hb
      replace T_:=tabs_below T_ hb
      clear hb
      refine hK.out _ _ (⟨G_,X_⟩) (fun hHeld=>?_)
      clear hK K
      refine norm_ (a':=?_) ?_ ?_
      rotate_left
      · show Act.put _ (some 5) _ = _
        simp only [Act.put,List.setIfInBounds_toArray,List.set_cons_zero,List.set_cons_succ,i64_w,i32_w];rfl
      refine one_ (i:=7) (N:=some 15) #[true,true,true,true,true,true,true,true,true,false,false,false,false,true,false,false] rfl rfl (by kernel_rfl) (by decide) (fun K hK=>?_)
      refine goes_ Tryz.func37 (by kernel_rfl) rfl #[.pointer (some ⟨g,8,none⟩)] (by rfl) rfl rfl (by first | (go_simp;done) | (go_simp;rfl)) ?_
      refine (tk _ (cells11 G_).2.2.2.2.2.2.2.2.1 C_ h1 (by omega)).mono ?_
      rintro e wx7 ⟨A7,c7,A8,c8,rfl,hS,hb⟩
      refine ⟨_,rfl,?_⟩
      replace hB_:=below_step hB_ hb
      replace G_:=blk_below G_ hb
      replace X_:=blk_below X_ hb
      replace C_:=Kd.C_below C_ hb
      replace P_:=P_.below hb
      replace T_:=tabs_below T_ hb
      replace Z_:=blk_below Z_ hb
      clear hb
      refine hK.out _ _ (⟨G_,X_⟩) (fun hHeld=>?_)
      clear hK K
      refine norm_ (a':=?_) ?_ ?_
      rotate_left
      · show Act.put _ (some 15) _ = _
        simp only [Act.put,List.setIfInBounds_toArray,List.set_cons_zero,List.set_cons_succ,i64_w,i32_w];rfl
      refine one_ (i:=9) (N:=some 17) #[true,true,true,true,true,true,true,true,true,true,false,false,false,true,false,false] rfl rfl (by kernel_rfl) (by decide) (fun K hK=>?_)
      refine goes_ Tryz.func51 (by kernel_rfl) rfl #[.agg #[.string P.t,.int .i64 P.H,.int .i64 P.W,.slice A2 P.bl.length c2,.slice A3 P.ri.length c3,.slice A4 P.be.length c4,.slice A5 P.cells.length c5,.slice A6 P.clues.length c6],.agg #[.slice A7 s.1.length c7,.slice A8 s.2.1.length c8,.int .i64 s.2.2.1,.bool s.2.2.2],.agg #[.int .i64 a.f0,.int .i64 a.f1,.string a.f2]] (by rfl) rfl rfl (by first | (go_simp;done) | (go_simp;rfl)) ?_
      refine (sheet_Do.calls T_ P_ hS hz hzs hzt).mono ?_
      rw [hr.out]
      rintro e wx8 ⟨u0,u1,rfl,ho0,ho1,hb⟩
      refine ⟨_,rfl,?_⟩
      have R0:=Kd.R_lower ho0 hB_.size
      have R1:=Kd.R_lower ho1 hB_.size
      clear ho0 ho1
      replace hB_:=below_step hB_ hb
      replace G_:=blk_below G_ hb
      replace X_:=blk_below X_ hb
      replace C_:=Kd.C_below C_ hb
      replace P_:=P_.below hb
      replace T_:=tabs_below T_ hb
      replace hS:=hS.below hb
      replace Z_:=blk_below Z_ hb
      clear hb
      refine hK.out _ _ (⟨G_,X_⟩) (fun hHeld=>?_)
      clear hK K
      refine norm_ (a':=?_) ?_ ?_
      rotate_left
      · show Act.put _ (some 17) _ = _
        simp only [Act.put,List.setIfInBounds_toArray,List.set_cons_zero,List.set_cons_succ,i64_w,i32_w];rfl
      refine pure_ (i:=10) (N:=some 7) (v:=?_) (a':=?_) #[true,true,true,true,true,true,true,true,true,true,true,false,false,true,false,false] rfl rfl (by kernel_rfl) (fun _ _ _ h=>h) (Or.inl ⟨by rfl,?_⟩) ?_ ?_
      rotate_left
      · intro w';go_simp;with_reducible rfl
      rotate_left
      · simp only [Act.put,List.setIfInBounds_toArray,List.set_cons_zero,List.set_cons_succ,i64_w,i32_w];rfl
      refine pure_ (i:=11) (N:=some 18) (v:=?_) (a':=?_) #[true,true,true,true,true,true,true,true,true,true,true,true,false,true,false,false] rfl rfl (by kernel_rfl) (fun _ _ _ h=>h) (Or.inl ⟨by rfl,?_⟩) ?_ ?_
      rotate_left
      · intro w';go_simp;with_reducible rfl
      rotate_left
      · simp only [Act.put,List.setIfInBounds_toArray,List.set_cons_zero,List.set_cons_succ,i64_w,i32_w];rfl
      refine pure_ (i:=12) (N:=some 19) (v:=?_) (a':=?_) #[true,true,true,true,true,true,true,true,true,true,true,true,true,true,false,false] rfl rfl (by kernel_rfl) (fun _ _ _ h=>h) (Or.inl ⟨by rfl,?_⟩) ?_ ?_
      rotate_left
      · intro w';go_simp;with_reducible rfl
      rotate_left
      · simp only [Act.put,List.setIfInBounds_toArray,List.set_cons_zero,List.set_cons_succ,i64_w,i32_w];rfl
      exact norm_ (by simp only [putAll,Act.put,List.setIfInBounds_toArray,List.set_cons_zero,List.set_cons_succ]) (hCont (.agg #[.slice A7 s.1.length c7,.slice A8 s.2.1.length c8,.int .i64 s.2.2.1,.bool s.2.2.2],u0,u1,b5) _ ⟨hB_,X_,ltb,Z_,R0,R1⟩)
  rintro ⟨vt,u0,u1,b5⟩ w6 ⟨hB6,X6,lt6,Z6,R0,R1⟩
  replace hB6 : Below w.heap.size w w6:=hB6
  replace lt6 : w.heap.size < b5:=lt6
  replace Z6 : w6.heap[b5]? = some (.cells #[.slice none 0 0,.slice none 0 0,.int .i64 0,.bool false] 57 (0,0)):=Z6
  replace R0 : Kd.R Kd.string 9 w6 w.heap.size (fun _=>True) u0 r.1:=R0
  replace R1 : Kd.R Kd.bool 4 w6 w.heap.size (fun _=>True) u1 r.2.1:=R1
  have G6:=blk_below hs.blk hB6
  refine norm_ (a':=?_) ?_ ?_
  rotate_left
  · simp only [putAll,Act.put,List.setIfInBounds_toArray,List.set_cons_zero,List.set_cons_succ]
    rfl
  have hHeld : (fun w'=>w'.heap[g]? = some (.cells #[.string P.t,.int .i64 P.H,.int .i64 P.W,.slice A2 P.bl.length c2,.slice A3 P.ri.length c3,.slice A4 P.be.length c4,.slice A5 P.cells.length c5,.slice A6 P.clues.length c6,.slice As sh.length cs,vl,vo] 85 (0,0)) ∧ w'.heap[w.heap.size]? = some (.cells #[.int .i64 a.f0,.int .i64 a.f1,.string a.f2] 35 (0,0))) w6:=⟨G6,X6⟩
  refine one_ (i:=14) (N:=none) #[true,true,true,true,true,true,true,true,true,true,true,true,true,true,true,false] rfl rfl (by kernel_rfl) (by decide) (fun K hK=>?_)
  have c6:=cells4 Z6
  have f6:=frozen4 Z6
  have F6:=put4_facts Z6 u0 u1 (.int .i64 r.2.2.1) (.bool r.2.2.2.1)
  obtain ⟨D0,k0,rfl⟩:=Kd.R_slice R0
  obtain ⟨D1,k1,rfl⟩:=Kd.R_slice R1
  refine skip_ (w1:=put4 w6 b5 (.slice D0 r.1.length k0) (.slice D1 r.2.1.length k1) (.int .i64 r.2.2.1) (.bool r.2.2.2.1)) (by rfl) rfl (by first | (go_simp;done) | (go_simp;rfl)) ?_
  generalize put4 w6 b5 (.slice D0 r.1.length k0) (.slice D1 r.2.1.length k1) (.int .i64 r.2.2.1) (.bool r.2.2.2.1) = w7 at F6 ⊢
  have Z7:=F6.1
  have G7:=(F6.2.1 g (by omega)).trans G6
  have X7:=(F6.2.1 w.heap.size (by omega)).trans X6
  have hB7:=F6.2.2 _ _ hB6 (by omega)
  have R0':=R_of_heap R0 Z6 (by decide) F6.2.1
  have R1':=R_of_heap R1 Z6 (by decide) F6.2.1
  clear F6 c6 f6 R0 R1
  refine hK.out _ _ (⟨G7,X7⟩) (fun hHeld=>?_)
  clear hK K
  refine pure_ (i:=15) (N:=some 6) (v:=?_) (a':=?_) #[true,true,true,true,true,true,true,true,true,true,true,true,true,true,true,true] rfl rfl (by kernel_rfl) (fun _ _ _ h=>h) (Or.inl ⟨by rfl,?_⟩) ?_ ?_
  rotate_left
  · intro w';go_simp;with_reducible rfl
  rotate_left
  · simp only [Act.put,List.setIfInBounds_toArray,List.set_cons_zero,List.set_cons_succ,i64_w,i32_w];rfl
  refine done_ (by kernel_rfl) ?_
  clear G6 X6 Z6 hB6 hHeld
  have S7:=hs.below hB7
  by_cases he : r.2.2.2.2 = 0
  · have hE : V = (⟨sh ++ [(r.1,r.2.1,r.2.2.1,r.2.2.2.1)],log ++ [a],on⟩,0):=by rw [hv.out];exact if_pos he
    rw [he]
    clear hv hr he
    go_wp2
    refine start_ (n:=5) (S:=fun w'=>w'.heap[b5]? = some (.cells #[.slice D0 r.1.length k0,.slice D1 r.2.1.length k1,.int .i64 r.2.2.1,.bool r.2.2.2.1] 57 (0,0))) (ds:=[4]) #[false,false,false,false,false] (by kernel_rfl) rfl rfl (blk_drew Z7) (fun hHeld=>?_)
    replace Z7:=blk_drew Z7
    replace X7:=blk_drew X7
    replace S7:=S7.below (below_drew (Below.refl _ _))
    replace hB7:=below_drew hB7
    replace R0':=Kd.R_drew R0'
    replace R1':=Kd.R_drew R1'
    generalize w7.drew = w8 at Z7 X7 S7 hB7 R0' R1' hHeld ⊢
    refine pure_ (i:=0) (N:=some 22) (v:=?_) (a':=?_) #[true,false,false,false,false] rfl rfl (by kernel_rfl) (fun _ _ _ h=>h) (Or.inl ⟨by rfl,?_⟩) ?_ ?_
    rotate_left
    · intro w';go_simp;with_reducible rfl
    rotate_left
    · simp only [Act.put,List.setIfInBounds_toArray,List.set_cons_zero,List.set_cons_succ,i64_w,i32_w];rfl
    refine pure_ (i:=1) (N:=some 23) (v:=?_) (a':=?_) #[true,true,false,false,false] rfl rfl (by kernel_rfl) (fun _ _ _ h=>h) (Or.inl ⟨by rfl,?_⟩) ?_ ?_
    rotate_left
    · intro w';go_simp;with_reducible rfl
    rotate_left
    · simp only [Act.put,List.setIfInBounds_toArray,List.set_cons_zero,List.set_cons_succ,i64_w,i32_w];rfl
    refine pure_ (i:=2) (N:=some 24) (v:=?_) (a':=?_) #[true,true,true,false,false] rfl rfl (by kernel_rfl) (fun _ _ _ h=>h) (Or.inl ⟨by rfl,?_⟩) ?_ ?_
    rotate_left
    · intro w';go_simp;with_reducible rfl
    rotate_left
    · simp only [Act.put,List.setIfInBounds_toArray,List.set_cons_zero,List.set_cons_succ,i64_w,i32_w];rfl
    refine take_ (i:=3) (N:=some 25) (v:=?_) (a':=?_) #[true,true,true,true,false] rfl rfl (by kernel_rfl) (fun _ _ _ h=>h) (Or.inl ⟨by rfl,?_⟩) hHeld ?_ ?_
    rotate_left
    · rintro w' s0;have q0:=cells4 s0;clear s0;go_simp;with_reducible rfl
    rotate_left
    · simp only [Act.put,List.setIfInBounds_toArray,List.set_cons_zero,List.set_cons_succ,i64_w,i32_w];rfl
    refine last_ (i:=4) (N:=some 26) #[true,true,true,true,true] rfl rfl (by kernel_rfl) (by decide) (fun K hK=>?_)
    refine goes_ Tryz.func30 (by kernel_rfl) rfl #[.pointer (some ⟨g,8,none⟩),.agg #[.slice D0 r.1.length k0,.slice D1 r.2.1.length k1,.int .i64 r.2.2.1,.bool r.2.2.2.1]] (by rfl) rfl rfl (by first | (go_simp;done) | (go_simp;rfl)) ?_
    have S8:=SesV.mono (own':=fun k=>own k ∨ w.heap.size ≤ k) S7 (fun _ h=>.inl h)
    refine (pushS_calls (x:=(r.1,r.2.1,r.2.2.1,r.2.2.2.1)) (okp:=fun k=>w.heap.size ≤ k) S8.blk rfl S8.ge S8.rs (Kd.R_lower (Kd.R_mono (Kd.R_bound R0') (fun _ h=>h.2.1)) hbs) (Kd.R_lower (Kd.R_mono (Kd.R_bound R1') (fun _ h=>h.2.1)) hbs) (fun _ h=>.inr h) (fun k h=>.inr (Nat.le_trans hB7.size h)) (by omega)).mono ?_
    rintro e w9 ⟨rfl,vs9,G9,RS9,K9,hB9,_⟩
    refine ⟨_,rfl,?_⟩
    have S9:=S8.pushS G9 RS9 K9
    have nv:=Kd.R_ne S8.rs X7 (by decide)
    have X9:=blk_kept X7 K9 (by rintro (h | h);exact absurd h (by omega);exact nv h)
    have KK9:=(Kept.of_below hB7 own).then_ K9 (by rintro k (rfl | h);exact .inl hs.og;exact .inl (hs.rs.1 k h.symm))
    have hB19:=(hB7.mono hbs).trans hB9
    have hz9:=Nat.le_trans hB7.size K9.1
    clear S8 G9 RS9 K9 hB9 R0' R1' Z7 X7 S7 nv
    refine hK.out _ _ ?_
    clear hK K
    refine norm_ (a':=?_) ?_ ?_
    rotate_left
    · show Act.put _ (some 26) _ = _
      simp only [Act.put,List.setIfInBounds_toArray,List.set_cons_zero,List.set_cons_succ,i64_w,i32_w];rfl
    refine done_ (by kernel_rfl) ?_
    go_wp2
    refine start_ (n:=5) (S:=fun w'=>w'.heap[w.heap.size]? = some (.cells #[.int .i64 a.f0,.int .i64 a.f1,.string a.f2] 35 (0,0))) (ds:=[4]) #[false,false,false,false,false] (by kernel_rfl) rfl rfl (blk_drew X9) (fun hHeld=>?_)
    replace X9:=blk_drew X9
    replace S9:=S9.below (below_drew (Below.refl _ _))
    replace KK9:=KK9.drew
    replace hB19:=below_drew hB19
    replace hz9 : w.heap.size ≤ w9.drew.heap.size:=hz9
    generalize w9.drew = w10 at X9 S9 KK9 hB19 hz9 hHeld ⊢
    refine pure_ (i:=0) (N:=some 27) (v:=?_) (a':=?_) #[true,false,false,false,false] rfl rfl (by kernel_rfl) (fun _ _ _ h=>h) (Or.inl ⟨by rfl,?_⟩) ?_ ?_
    rotate_left
    · intro w';go_simp;with_reducible rfl
    rotate_left
    · simp only [Act.put,List.setIfInBounds_toArray,List.set_cons_zero,List.set_cons_succ,i64_w,i32_w];rfl
    refine pure_ (i:=1) (N:=some 28) (v:=?_) (a':=?_) #[true,true,false,false,false] rfl rfl (by kernel_rfl) (fun _ _ _ h=>h) (Or.inl ⟨by rfl,?_⟩) ?_ ?_
    rotate_left
    · intro w';go_simp;with_reducible rfl
    rotate_left
    · simp only [Act.put,List.setIfInBounds_toArray,List.set_cons_zero,List.set_cons_succ,i64_w,i32_w];rfl
    refine pure_ (i:=2) (N:=some 29) (v:=?_) (a':=?_) #[true,true,true,false,false] rfl rfl (by kernel_rfl) (fun _ _ _ h=>h) (Or.inl ⟨by rfl,?_⟩) ?_ ?_
    rotate_left
    · intro w';go_simp;with_reducible rfl
    rotate_left
    · simp only [Act.put,List.setIfInBounds_toArray,List.set_cons_zero,List.set_cons_succ,i64_w,i32_w];rfl
    refine take_ (i:=3) (N:=some 30) (v:=?_) (a':=?_) #[true,true,true,true,false] rfl rfl (by kernel_rfl) (fun _ _ _ h=>h) (Or.inl ⟨by rfl,?_⟩) hHeld ?_ ?_
    rotate_left
    · rintro w' s0;have q0:=cells3 s0;clear s0;go_simp;with_reducible rfl
    rotate_left
    · simp only [Act.put,List.setIfInBounds_toArray,List.set_cons_zero,List.set_cons_succ,i64_w,i32_w];rfl
    refine last_ (i:=4) (N:=some 31) #[true,true,true,true,true] rfl rfl (by kernel_rfl) (by decide) (fun K hK=>?_)
    refine goes_ Tryz.func32 (by kernel_rfl) rfl #[.pointer (some ⟨g,9,none⟩),.agg #[.int .i64 a.f0,.int .i64 a.f1,.string a.f2]] (by rfl) rfl rfl (by first | (go_simp;done) | (go_simp;rfl)) ?_
    refine (pushA_calls S9.blk rfl S9.ge S9.rl (fun k hk=>⟨.inr (Nat.le_trans hz9 hk),fun he=>by obtain ⟨c_,hc_⟩:=Kd.R_typed S9.ro k he.symm;have:=blk_lt hc_;omega⟩) (by omega)).mono ?_
    rintro e w11 ⟨rfl,vl11,G11,RL11,K11,hB11,hat11⟩
    refine ⟨_,rfl,?_⟩
    have S11:=S9.pushL G11 RL11 K11 hat11
    have KK11:=KK9.then_ K11 (by rintro k (rfl | h);exact .inl hs.og;exact (S9.rl.1 k h.symm).1)
    have hB111:=hB19.trans hB11
    clear S9 G11 RL11 K11 hB11 hat11 KK9 hB19 X9
    refine hK.out _ _ ?_
    clear hK K
    refine norm_ (a':=?_) ?_ ?_
    rotate_left
    · show Act.put _ (some 31) _ = _
      simp only [Act.put,List.setIfInBounds_toArray,List.set_cons_zero,List.set_cons_succ,i64_w,i32_w];rfl
    refine done_ (by kernel_rfl) ?_
    go_wp2
    go_ret
    rw [hE]
    exact ⟨rfl,⟨_,_,_,_,_,_,_,_,S11⟩,KK11,hB111⟩
  · have hE : V = (⟨sh,log,on⟩,r.2.2.2.2):=by rw [hv.out];exact if_neg he
    have te : (r.2.2.2.2 == 0) = false:=by simpa using he
    replace hE:=Lib.hid hE
    clear hv hr he
    go_wp2
    go_ret
    rw [hE.out]
    exact ⟨rfl,SesOut.same hs hB7⟩
end Go.Proofs.YtjopbfidjapmbaaGreatDoor.Q
end
section
namespace Go.Proofs.YtjopbfidjapmbaaGreatDoor.Q
open Go.RowKit Go.Proofs.YtjopbfidjapmbaaGreatDoorW.PrintWords Go.Proofs.YtjopbfidjapmbaaGreatDoorW.PrintLast Go.Proofs.YtjopbfidjapmbaaGreatDoorW.PrintMore
set_option linter.unusedVariables false
set_option linter.unusedSimpArgs false
open Go.Proofs.YtjopbfidjapmbaaGreatDoorS
theorem SesOut.later {own : Nat → Prop} {w w1 w2 : World} {base g : Nat} {P : Puz} {S : SS} (hB : Below w.heap.size w w1) (hb : base ≤ w.heap.size) (h : SesOut own w1 base g P S w2) : SesOut own w base g P S w2:=by
  obtain ⟨⟨_,_,_,_,_,_,_,_,hs⟩,hk,hB2⟩:=h
  exact ⟨⟨_,_,_,_,_,_,_,_,hs.mono (fun k hk=>hk.imp id (Nat.le_trans hB.size))⟩,(Kept.of_below hB own).then_ hk (fun _ h=>.inl h),(hB.mono hb).trans hB2⟩
theorem SesOut.step {own : Nat → Prop} {w w1 w2 : World} {base g : Nat} {P : Puz} {S S2 : SS} {T : Nat → Prop} (h : SesOut own w base g P S w1) (h2 : Ses (fun k=>own k ∨ w.heap.size ≤ k) w2 base g P S2) (hk : Kept w1 w2 T) (hT : ∀ k,T k → own k ∨ w.heap.size ≤ k) (hB : Below base w1 w2) : SesOut own w base g P S2 w2 :=
  ⟨h2,h.2.1.then_ hk hT,h.2.2.trans hB⟩
theorem R_fresh {α : Type} {d : Kd α} {e base : Nat} {ok : Nat → Prop} {w : World} {v : Value} {xs : List α} (h : d.R e w base ok v xs) (k : Nat) (hk : w.heap.size ≤ k) : some k ≠ v.ownBlock:=fun he=>by
  obtain ⟨c_,hc_⟩:=Kd.R_typed h k he.symm
  have:=blk_lt hc_
  omega
set_option maxHeartbeats 8000000 in
set_option maxRecDepth 1000000 in
theorem do_calls {own : Nat → Prop} {w : World} {base g : Nat} {P : Puz} {v2 v3 v4 v5 v6 vs vl vo : Value} {sh : List Sht} {log on : List Act3} {a : Act3} (hT : Tabs w) (hs : SesV own w base g P v2 v3 v4 v5 v6 vs vl vo sh log on) (h1 : 0 < sh.length) (hl : sh.length ≤ 1000000) (hl2 : log.length ≤ 1000000) (hz : PuzS P.t P.cells P.clues) (hzs : Small (topOf sh).1) (hzt : a.f2.size ≤ 1048576) :
    Calls Tryz.prog 13 #[.pointer (some ⟨g,0,none⟩),.agg #[.int .i64 a.f0,.int .i64 a.f1,.string a.f2]] w fun e w'=>e = .returned (.int .i64 (sDo P ⟨sh,log,on⟩ a).2) ∧ SesOut own w base g P (sDo P ⟨sh,log,on⟩ a).1 w':=by
  obtain ⟨Al,cl,rfl,_,_⟩:=Kd.R_reads hs.rl
  have hbs : base ≤ w.heap.size:=Nat.le_trans hs.ge (Nat.le_of_lt (blk_lt hs.blk))
  have X1:=blk_new w (.cells #[.int .i64 a.f0,.int .i64 a.f1,.string a.f2] 35)
  have hB1:=below_alloc (Below.refl w.heap.size w) (.cells #[.int .i64 a.f0,.int .i64 a.f1,.string a.f2] 35)
  have G1:=cells11 (blk_below hs.blk hB1)
  replace hB1:=Lib.hid hB1
  by_cases hn : 2000 ≤ log.length
  · have hE : sDo P ⟨sh,log,on⟩ a = (⟨sh,log,on⟩,32):=if_pos hn
    rw [hE]
    have tn : decide (2000 ≤ (log.length : Int)) = true:=decide_eq_true (by omega)
    have tn2 : decide ((log.length : Int) ≥ 2000) = true:=decide_eq_true (by omega)
    clear hE
    go_enter Tryz.func13,Tryz.ntmps13
    go_wp2
    go_ret
    exact ⟨rfl,SesOut.same hs hB1.out⟩
  · have tn : decide (2000 ≤ (log.length : Int)) = false:=decide_eq_false (by omega)
    have tn2 : decide ((log.length : Int) ≥ 2000) = false:=decide_eq_false (by omega)
    obtain ⟨V,hV⟩ : ∃ V,sAct P ⟨sh,log,on⟩ a = V:=⟨_,rfl⟩
    have hE : sDo P ⟨sh,log,on⟩ a = if V.2 = 0 then (⟨V.1.sh,V.1.log,[]⟩,0) else V:=by rw [← hV];exact if_neg hn
    rw [hE]
    clear hE
    have hact:=Lib.hid (act_calls (a:=a) (tabs_below hT hB1.out) (hs.below hB1.out) h1 hl hl2 hz hzs hzt)
    rw [hV] at hact
    clear hV hT hz hzs
    have x1:=cells3 X1
    by_cases he : V.2 = 0
    · rw [if_pos he]
      rw [he] at hact
      clear he
      go_enter Tryz.func13,Tryz.ntmps13
      go_wp2_with (first
        | (go_at_call 31;go_must (refine hact.out.mono ?_;rintro e w2 ⟨rfl,hO⟩;replace hO:=Lib.hid hO;obtain ⟨⟨v2,v3,v4,v5,v6,vs,vl,vo2,hs2⟩,hk2,hB2⟩:=hO.out;have c2:=cells11 hs2.blk;have f2:=blk_frozen hs2.blk 10;have hO2:=hO;clear hO;replace hs2:=Lib.hid hs2;replace hk2:=Lib.hid hk2;replace hB2:=Lib.hid hB2)))
      have E3:=one_facts (i:=10) hs2.out.blk (.slice none 0 0) rfl
      have K3 : Kept w2 (w2.setCell ⟨g,10,none⟩ (.slice none 0 0)) (fun k=>k = g):=Kept.setCell (S:=fun k=>k = g) (p:=⟨g,10,none⟩) (Kept.refl w2 _) (.inl rfl) _
      go_ret
      refine ⟨rfl,SesOut.later hB1.out hbs (SesOut.step hO2.out ⟨_,_,_,_,_,_,_,_,hs2.out.none E3.1 K3⟩ (T:=fun k=>k = g) K3 (fun k h=>.inl (h ▸ hs.og)) (E3.2.2 _ _ (Below.refl _ _) hs.ge))⟩
    · rw [if_neg he]
      have te : (V.2 == 0) = false:=by simpa using he
      clear he
      go_enter Tryz.func13,Tryz.ntmps13
      go_wp2_with (first
        | (go_at_call 31;go_must (refine hact.out.mono ?_;rintro e w2 ⟨rfl,hO⟩;replace hO:=Lib.hid hO)))
      go_ret
      exact ⟨rfl,SesOut.later hB1.out hbs hO.out⟩
end Go.Proofs.YtjopbfidjapmbaaGreatDoor.Q
end
section
namespace Go.Proofs.YtjopbfidjapmbaaGreatDoor.Q
open Go.RowKit Go.Proofs.YtjopbfidjapmbaaGreatDoorW.PrintWords Go.Proofs.YtjopbfidjapmbaaGreatDoorW.PrintLast Go.Proofs.YtjopbfidjapmbaaGreatDoorW.PrintMore
set_option linter.unusedVariables false
set_option linter.unusedSimpArgs false
open Go.Proofs.YtjopbfidjapmbaaGreatDoorS
theorem SesOut.after {own : Nat → Prop} {w w1 w2 : World} {base g : Nat} {P : Puz} {S : SS} (hk : Kept w w1 own) (hB : Below base w w1) (h : SesOut own w1 base g P S w2) : SesOut own w base g P S w2:=by
  obtain ⟨⟨_,_,_,_,_,_,_,_,hs⟩,hk2,hB2⟩:=h
  exact ⟨⟨_,_,_,_,_,_,_,_,hs.mono (fun k h=>h.imp id (Nat.le_trans hk.1))⟩,hk.then_ hk2 (fun _ h=>.inl h),hB.trans hB2⟩
set_option maxHeartbeats 8000000 in
set_option maxRecDepth 1000000 in
theorem redo_calls {own : Nat → Prop} {w : World} {base g : Nat} {P : Puz} {v2 v3 v4 v5 v6 vs vl vo : Value} {sh : List Sht} {log on : List Act3} (hT : ∀ w',Below base w w' → Tabs w') (hs : SesV own w base g P v2 v3 v4 v5 v6 vs vl vo sh log on) (h1 : 0 < sh.length) (hl : sh.length ≤ 1000000) (hl2 : log.length ≤ 1000000) (hl3 : on.length ≤ 1000000) (hz : PuzS P.t P.cells P.clues) (hzs : Small (topOf sh).1) (hzt : ∀ a,0 < on.length → lastOf on = a → a.f2.size ≤ 1048576) :
    Calls Tryz.prog 15 #[.pointer (some ⟨g,0,none⟩)] w fun e w'=>e = .returned (.int .i64 (sRedo P ⟨sh,log,on⟩).2) ∧ SesOut own w base g P (sRedo P ⟨sh,log,on⟩).1 w':=by
  obtain ⟨Ao,co,rfl,hk,hC⟩:=Kd.R_reads hs.ro
  have c0:=cells11 hs.blk
  have hbs : base ≤ w.heap.size:=Nat.le_trans hs.ge (Nat.le_of_lt (blk_lt hs.blk))
  by_cases hn : on.length = 0
  · have hE : sRedo P ⟨sh,log,on⟩ = (⟨sh,log,on⟩,241):=if_pos hn
    rw [hE]
    have tn : ((on.length : Int) == 0) = true:=by rw [hn];rfl
    have tn2 : decide ((on.length : Int) = 0) = true:=decide_eq_true (by omega)
    clear hE hn
    go_enter Tryz.func15,Tryz.ntmps15
    go_wp2
    go_ret
    exact ⟨rfl,SesOut.same hs (Below.refl _ _)⟩
  · have tn : ((on.length : Int) == 0) = false:=by simpa using hn
    have hE : sRedo P ⟨sh,log,on⟩ = sAct P ⟨sh,log,on.take (on.length - 1)⟩ (lastOf on):=if_neg hn
    rw [hE]
    clear hE
    obtain ⟨a,ha⟩ : ∃ a,lastOf on = a:=⟨_,rfl⟩
    have hp:=popA_calls hs.blk (j:=10) rfl hC hk (by omega) (by omega)
    have hzt:=hzt a (by omega) ha
    rw [ha] at hp ⊢
    clear ha hn
    replace hp:=Lib.hid hp
    clear hC
    replace hk:=Lib.hid hk
    obtain ⟨V,hV⟩ : ∃ V,sAct P ⟨sh,log,on.take (on.length - 1)⟩ a = V:=⟨_,rfl⟩
    rw [hV]
    replace hV:=Lib.hid hV
    go_enter Tryz.func15,Tryz.ntmps15
    go_wp2_with (first
      | (go_at_call 33;go_must (refine hp.out.mono ?_;rintro e w2 ⟨rfl,G2,K2,hB2⟩;have hs2:=Lib.hid (hs.popO G2 K2);have KK2:=Lib.hid (Kept.mono (S':=own) K2 (fun k h=>h ▸ hs.og));replace hB2:=Lib.hid (hB2 base hs.ge);clear G2 K2))
      | (go_at_call 31;go_must (refine (act_calls (own:=own) (base:=base) (P:=P) (a:=a) (hT _ hB2.out) hs2.out h1 hl hl2 hz hzs hzt).mono ?_;rintro e w3 ⟨rfl,hO⟩;rw [hV.out] at hO ⊢)))
    go_ret
    exact ⟨rfl,SesOut.after KK2.out hB2.out hO⟩
end Go.Proofs.YtjopbfidjapmbaaGreatDoor.Q
end
section
namespace Go.Proofs.YtjopbfidjapmbaaGreatDoor.Q
open Go.RowKit Go.Proofs.YtjopbfidjapmbaaGreatDoorW.PrintWords Go.Proofs.YtjopbfidjapmbaaGreatDoorW.PrintLast Go.Proofs.YtjopbfidjapmbaaGreatDoorW.PrintMore
set_option linter.unusedVariables false
set_option linter.unusedSimpArgs false
open Go.Proofs.YtjopbfidjapmbaaGreatDoorS
set_option maxHeartbeats 8000000 in
set_option maxRecDepth 1000000 in
theorem undo_calls {own : Nat → Prop} {w : World} {base g : Nat} {P : Puz} {v2 v3 v4 v5 v6 vs vl vo : Value} {sh : List Sht} {log on : List Act3} (hs : SesV own w base g P v2 v3 v4 v5 v6 vs vl vo sh log on) (h1 : 0 < sh.length) (hl : sh.length ≤ 1000000) (hl2 : log.length ≤ 1000000) (hl3 : on.length ≤ 1000000) :
    Calls Tryz.prog 14 #[.pointer (some ⟨g,0,none⟩)] w fun e w'=>e = .returned (.int .i64 (sUndo ⟨sh,log,on⟩).2) ∧ SesOut own w base g P (sUndo ⟨sh,log,on⟩).1 w':=by
  obtain ⟨Al,cl,rfl,hk,hC⟩:=Kd.R_reads hs.rl
  have c0:=cells11 hs.blk
  have hbs : base ≤ w.heap.size:=Nat.le_trans hs.ge (Nat.le_of_lt (blk_lt hs.blk))
  by_cases hn : log.length = 0
  · have hE : sUndo ⟨sh,log,on⟩ = (⟨sh,log,on⟩,240):=if_pos hn
    rw [hE]
    have tn : ((log.length : Int) == 0) = true:=by rw [hn];rfl
    clear hE hn
    go_enter Tryz.func14,Tryz.ntmps14
    go_wp2
    go_ret
    exact ⟨rfl,SesOut.same hs (Below.refl _ _)⟩
  · have tn : ((log.length : Int) == 0) = false:=by simpa using hn
    have hE : sUndo ⟨sh,log,on⟩ = (⟨sh.take (sh.length - 1),log.take (log.length - 1),on ++ [lastOf log]⟩,0):=if_neg hn
    rw [hE]
    clear hE
    obtain ⟨a,ha⟩ : ∃ a,lastOf log = a:=⟨_,rfl⟩
    have hp:=fun (w1 : World) (hb : w1.heap[g]? = some (.cells #[.string P.t,.int .i64 P.H,.int .i64 P.W,v2,v3,v4,v5,v6,vs,.slice Al log.length cl,vo] 85 (0,0))) (hc : Kd.C kAct w1 Al log.length log)=>popA_calls (w:=w1) hb (j:=9) rfl hc hk (by omega) (by omega)
    rw [ha] at hp ⊢
    clear ha hn
    replace hp:=Lib.hid hp
    replace hk:=Lib.hid hk
    go_enter Tryz.func14,Tryz.ntmps14
    go_wp2
    refine start_ (n:=8) (S:=fun _=>True) (ds:=[]) #[false,false,false,false,false,false,false,false] (by kernel_rfl) rfl rfl (trivial) (fun hHeld=>?_)
    have hsd:=hs.below (below_drew (Below.refl _ _))
    replace hC:=Kd.C_below hC (below_drew (Below.refl _ _))
    refine pure_ (i:=0) (N:=some 14) (v:=?_) (a':=?_) #[true,false,false,false,false,false,false,false] rfl rfl (by kernel_rfl) (fun _ _ _ h=>h) (Or.inl ⟨by rfl,?_⟩) ?_ ?_
    rotate_left
    · intro w';go_simp;with_reducible rfl
    rotate_left
    · simp only [Act.put,List.setIfInBounds_toArray,List.set_cons_zero,List.set_cons_succ,i64_w,i32_w];rfl
    refine pure_ (i:=1) (N:=some 15) (v:=?_) (a':=?_) #[true,true,false,false,false,false,false,false] rfl rfl (by kernel_rfl) (fun _ _ _ h=>h) (Or.inl ⟨by rfl,?_⟩) ?_ ?_
    rotate_left
    · intro w';go_simp;with_reducible rfl
    rotate_left
    · simp only [Act.put,List.setIfInBounds_toArray,List.set_cons_zero,List.set_cons_succ,i64_w,i32_w];rfl
    refine pure_ (i:=2) (N:=some 16) (v:=?_) (a':=?_) #[true,true,true,false,false,false,false,false] rfl rfl (by kernel_rfl) (fun _ _ _ h=>h) (Or.inl ⟨by rfl,?_⟩) ?_ ?_
    rotate_left
    · intro w';go_simp;with_reducible rfl
    rotate_left
    · simp only [Act.put,List.setIfInBounds_toArray,List.set_cons_zero,List.set_cons_succ,i64_w,i32_w];rfl
    refine pure_ (i:=3) (N:=some 17) (v:=?_) (a':=?_) #[true,true,true,true,false,false,false,false] rfl rfl (by kernel_rfl) (fun _ _ _ h=>h) (Or.inl ⟨by rfl,?_⟩) ?_ ?_
    rotate_left
    · intro w';go_simp;with_reducible rfl
    rotate_left
    · simp only [Act.put,List.setIfInBounds_toArray,List.set_cons_zero,List.set_cons_succ,i64_w,i32_w];rfl
    refine pure_ (i:=4) (N:=some 18) (v:=?_) (a':=?_) #[true,true,true,true,true,false,false,false] rfl rfl (by kernel_rfl) (fun _ _ _ h=>h) (Or.inl ⟨by rfl,?_⟩) ?_ ?_
    rotate_left
    · intro w';go_simp;with_reducible rfl
    rotate_left
    · simp only [Act.put,List.setIfInBounds_toArray,List.set_cons_zero,List.set_cons_succ,i64_w,i32_w];rfl
    refine pure_ (i:=5) (N:=some 19) (v:=?_) (a':=?_) #[true,true,true,true,true,true,false,false] rfl rfl (by kernel_rfl) (fun _ _ _ h=>h) (Or.inl ⟨by rfl,?_⟩) ?_ ?_
    rotate_left
    · intro w';go_simp;with_reducible rfl
    rotate_left
    · simp only [Act.put,List.setIfInBounds_toArray,List.set_cons_zero,List.set_cons_succ,i64_w,i32_w];rfl
    refine one_ (i:=6) (N:=some 20) #[true,true,true,true,true,true,true,false] rfl rfl (by kernel_rfl) (by decide) (fun K hK=>?_)
    refine goes_ Tryz.func33 (by kernel_rfl) rfl #[.pointer (some ⟨g,9,none⟩)] (by rfl) rfl rfl (by first | (go_simp;done) | (go_simp;rfl)) ?_
    refine (hp.out _ hsd.blk hC).mono ?_
    rintro e w2 ⟨rfl,G2,K2,hB2⟩
    refine ⟨_,rfl,?_⟩
    have hs2:=hsd.popL G2 K2
    have B2:=(below_drew (Below.refl base w)).trans (hB2 base hs.ge)
    have KK2 : Kept w w2 own:=(Kept.of_below (below_drew (Below.refl _ _)) own).then_ K2 (fun k h=>.inl (h ▸ hs.og))
    clear G2 K2 hB2 hsd hC
    refine hK.out _ _ (trivial) (fun hHeld=>?_)
    clear hK K
    refine norm_ (a':=?_) ?_ ?_
    rotate_left
    · show Act.put _ (some 20) _ = _
      simp only [Act.put,List.setIfInBounds_toArray,List.set_cons_zero,List.set_cons_succ,i64_w,i32_w];rfl
    refine one_ (i:=7) (N:=some 21) #[true,true,true,true,true,true,true,true] rfl rfl (by kernel_rfl) (by decide) (fun K hK=>?_)
    refine goes_ Tryz.func32 (by kernel_rfl) rfl #[.pointer (some ⟨g,10,none⟩),.agg #[.int .i64 a.f0,.int .i64 a.f1,.string a.f2]] (by rfl) rfl rfl (by first | (go_simp;done) | (go_simp;rfl)) ?_
    have hs2:=SesV.mono (own':=fun k=>own k ∨ w.heap.size ≤ k) hs2 (fun _ h=>.inl h)
    refine (pushA_calls hs2.blk rfl hs2.ge hs2.ro (fun k hk=>⟨.inr (Nat.le_trans KK2.1 hk),R_fresh hs2.rl k hk⟩) (by omega)).mono ?_
    rintro e w3 ⟨rfl,vo3,G3,R3,K3,B3,hat3⟩
    refine ⟨_,rfl,?_⟩
    have hs3:=hs2.pushO G3 R3 K3 hat3
    have KK3:=KK2.then_ K3 (by rintro k (rfl | h);exact .inl hs.og;exact (hs2.ro.1 k h.symm).1)
    replace B3:=B2.trans B3
    clear hs2 G3 R3 K3 hat3 KK2 B2
    refine hK.out _ _ (trivial) (fun hHeld=>?_)
    clear hK K
    refine norm_ (a':=?_) ?_ ?_
    rotate_left
    · show Act.put _ (some 21) _ = _
      simp only [Act.put,List.setIfInBounds_toArray,List.set_cons_zero,List.set_cons_succ,i64_w,i32_w];rfl
    refine done_ (by kernel_rfl) ?_
    obtain ⟨As,cs,rfl,hks,hCs⟩:=Kd.R_reads hs3.rs
    have hq:=Lib.hid (popS_calls hs3.blk (j:=8) rfl hCs hks h1 (by omega))
    clear hks hCs
    go_wp2_with (first
      | (go_at_call 34;go_must (refine hq.out.mono ?_;rintro e w4 ⟨A7,c7,A8,c8,rfl,G4,K4,hB4⟩;have hs4:=hs3.popS G4 K4;have KK4:=KK3.then_ K4 (fun k h=>.inl (h ▸ hs.og));have B4:=B3.trans (hB4 base hs.ge);clear G4 K4 hB4)))
    go_ret
    exact ⟨rfl,⟨_,_,_,_,_,_,_,_,hs4⟩,KK4,B4⟩
end Go.Proofs.YtjopbfidjapmbaaGreatDoor.Q
end
section
namespace Go.Proofs.YtjopbfidjapmbaaGreatDoor.Q
open Go.RowKit Go.Proofs.YtjopbfidjapmbaaGreatDoorW.PrintWords Go.Proofs.YtjopbfidjapmbaaGreatDoorW.PrintLast Go.Proofs.YtjopbfidjapmbaaGreatDoorW.PrintMore
set_option linter.unusedVariables false
set_option linter.unusedSimpArgs false
open Go.Proofs.YtjopbfidjapmbaaGreatDoorS
theorem mine_ {α : Type} {d : Kd α} {e base b : Nat} {ok : Nat → Prop} {w : World} {v : Value} {xs : List α} (h : d.R e w b ok v xs) (hb : base ≤ b) : d.R e w base (fun k=>base ≤ k) v xs:=Kd.R_lower (Kd.R_mono (Kd.R_bound h) (fun k hk=>Nat.le_trans hb hk.2.1)) hb
def NewPost (w : World) (P : Puz) (r : List ByteArray × List Bool × Int × Bool × Int) (e : Ending) (w' : World) : Prop :=
  (r.2.2.2.2 ≠ 0 ∧ e = .returned (.tuple #[.pointer none,.int .i64 r.2.2.2.2]) ∧ Below w.heap.size w w') ∨ (r.2.2.2.2 = 0 ∧ ∃ g,e = .returned (.tuple #[.pointer (some ⟨g,0,none⟩),.int .i64 0]) ∧ Ses (fun k=>w.heap.size ≤ k) w' w.heap.size g P ⟨[(r.1,r.2.1,r.2.2.1,r.2.2.2.1)],[],[]⟩ ∧ Below w.heap.size w w')
set_option maxHeartbeats 8000000 in
set_option maxRecDepth 1000000 in
theorem new_calls {title : ByteArray} {H W : Int} {A2 : Option Addr} {c2 : Nat} {bl : List Bool} {A3 : Option Addr} {c3 : Nat} {ri : List Bool} {A4 : Option Addr} {c4 : Nat} {be : List Bool} {A5 : Option Addr} {c5 : Nat} {cells : List ByteArray} {A6 : Option Addr} {c6 : Nat} {clues : List ByteArray} {w : World} (hT : Tabs w) (hP : PuzR A2 c2 bl A3 c3 ri A4 c4 be A5 c5 cells A6 c6 clues w) (hz : PuzS title cells clues) (h2 : bl.length ≤ 1048576) (h3 : ri.length ≤ 1048576) (h4 : be.length ≤ 1048576) :
    Calls Tryz.prog 11 #[.agg #[.string title,.int .i64 H,.int .i64 W,.slice A2 bl.length c2,.slice A3 ri.length c3,.slice A4 be.length c4,.slice A5 cells.length c5,.slice A6 clues.length c6]] w (NewPost w ⟨title,H,W,bl,ri,be,cells,clues⟩ (sstart title H W bl ri be cells clues)):=by
  have hx:=box1 w (.cells #[.string title,.int .i64 H,.int .i64 W,.slice A2 bl.length c2,.slice A3 ri.length c3,.slice A4 be.length c4,.slice A5 cells.length c5,.slice A6 clues.length c6] 42)
  replace hx:=Lib.hid hx
  have hu:=Tryz.underlying42
  have hu24:=Tryz.underlying39
  have hu55:=Tryz.underlying85
  have x0:=cells8 hx.out.1
  have hst:=Lib.hid (start_calls (H:=H) (W:=W) (tabs_below hT hx.out.2) (hP.below hx.out.2) hz)
  obtain ⟨r,hr⟩ : ∃ r,sstart title H W bl ri be cells clues = r:=⟨_,rfl⟩
  rw [hr] at hst ⊢
  clear hr hT
  by_cases he : r.2.2.2.2 = 0
  · have te : (r.2.2.2.2 != 0) = false:=by simpa using he
    replace he:=Lib.hid he
    go_enter Tryz.func11,Tryz.ntmps11
    go_wp2_with (first
      | (go_at_call 28;go_must (refine hst.out.mono ?_;rintro e w3 ⟨u0,u1,rfl,R0,R1,hb3⟩;have hB3:=below_step hx.out.2 hb3;replace R0:=Kd.R_lower R0 hx.out.2.size;replace R1:=Kd.R_lower R1 hx.out.2.size;obtain ⟨D0,k0,rfl⟩:=Kd.R_slice R0;obtain ⟨D1,k1,rfl⟩:=Kd.R_slice R1;have hX:=box1 w3 (.cells #[.slice D0 r.1.length k0,.slice D1 r.2.1.length k1,.int .i64 r.2.2.1,.bool r.2.2.2.1] 57);have P4:=blk_below (blk_below hx.out.1 hb3) hX.2;have p4:=cells8 P4;have hB4:=below_step hB3 hX.2;have Z4:=hX.1;replace R0:=Kd.R_below R0 hX.2;replace R1:=Kd.R_below R1 hX.2;replace hB4:=Lib.hid hB4;replace Z4:=Lib.hid Z4;replace R0:=Lib.hid R0;replace R1:=Lib.hid R1;clear hX hB3 hb3 P4))
      | (go_at_call 29;go_must (have hP4:=hP.below hB4.out;refine (session_copied.calls _ _ _ _ _ _ _ _ _ _ _ _ _ _ _ _ _ _ title H W bl ri be cells clues _ hP4.r2 hP4.k2 hP4.r3 hP4.k3 hP4.r4 hP4.k4 hP4.r5 hP4.k5 hP4.r6 hP4.k6 (by unfold session_copied.f slices_Clone_bool_bool.f slices_Clone_string_string.f;have:=hz.l;have:=hz.m;rw [if_pos (by omega),if_pos (by omega),if_pos (by omega),if_pos (by omega),if_pos (by omega)];rfl)).mono ?_;clear hP4;rintro e w5 ⟨v2,v3,v4,v5,v6,rfl,Q2,Q3,Q4,Q5,Q6,hb5⟩;have hs5:=Nat.le_trans hB4.out.size hb5.size;have hB5:=Lib.hid (below_step hB4.out hb5);have Z5:=Lib.hid (blk_below Z4.out hb5);have R05:=Lib.hid (Kd.R_below R0.out hb5);have R15:=Lib.hid (Kd.R_below R1.out hb5);replace Q2:=Lib.hid (mine_ Q2 hB4.out.size);replace Q3:=Lib.hid (mine_ Q3 hB4.out.size);replace Q4:=Lib.hid (mine_ Q4 hB4.out.size);replace Q5:=Lib.hid (mine_ Q5 hB4.out.size);replace Q6:=Lib.hid (mine_ Q6 hB4.out.size);obtain ⟨D2,k2,rfl⟩:=Kd.R_slice Q2.out;obtain ⟨D3,k3,rfl⟩:=Kd.R_slice Q3.out;obtain ⟨D4,k4,rfl⟩:=Kd.R_slice Q4.out;obtain ⟨D5,k5,rfl⟩:=Kd.R_slice Q5.out;obtain ⟨D6,k6,rfl⟩:=Kd.R_slice Q6.out;clear hb5)))
    have hY:=below_drew (below_alloc (Below.refl w5.heap.size w5) (.cells #[.string title,.int .i64 H,.int .i64 W,.slice D2 bl.length k2,.slice D3 ri.length k3,.slice D4 be.length k4,.slice D5 cells.length k5,.slice D6 clues.length k6,.slice none 0 0,.slice none 0 0,.slice none 0 0] 85))
    have S6 : SesV (fun k=>w.heap.size ≤ k) (w5.alloc (.cells #[.string title,.int .i64 H,.int .i64 W,.slice D2 bl.length k2,.slice D3 ri.length k3,.slice D4 be.length k4,.slice D5 cells.length k5,.slice D6 clues.length k6,.slice none 0 0,.slice none 0 0,.slice none 0 0] 85)).drew w.heap.size w5.heap.size ⟨title,H,W,bl,ri,be,cells,clues⟩ _ _ _ _ _ _ _ _ [] [] []:=⟨blk_drew (blk_new w5 (.cells #[.string title,.int .i64 H,.int .i64 W,.slice D2 bl.length k2,.slice D3 ri.length k3,.slice D4 be.length k4,.slice D5 cells.length k5,.slice D6 clues.length k6,.slice none 0 0,.slice none 0 0,.slice none 0 0] 85)),hs5,hs5,Kd.R_below Q2.out hY,Kd.R_below Q3.out hY,Kd.R_below Q4.out hY,Kd.R_below Q5.out hY,Kd.R_below Q6.out hY,Kd.R_nil _ _ _ _ _,Kd.R_nil _ _ _ _ _,Kd.R_nil _ _ _ _ _⟩
    have hB6:=below_step hB5.out hY
    have Z6:=blk_below Z5.out hY
    have R06:=Kd.R_below R05.out hY
    have R16:=Kd.R_below R15.out hY
    clear hY
    refine start_ (n:=5) (S:=fun w'=>w'.heap[w3.heap.size]? = some (.cells #[.slice D0 r.1.length k0,.slice D1 r.2.1.length k1,.int .i64 r.2.2.1,.bool r.2.2.2.1] 57 (0,0))) (ds:=[4]) #[false,false,false,false,false] (by kernel_rfl) rfl rfl (Z6) (fun hHeld=>?_)
    generalize (w5.alloc (.cells #[.string title,.int .i64 H,.int .i64 W,.slice D2 bl.length k2,.slice D3 ri.length k3,.slice D4 be.length k4,.slice D5 cells.length k5,.slice D6 clues.length k6,.slice none 0 0,.slice none 0 0,.slice none 0 0] 85)).drew = w6 at S6 hB6 Z6 R06 R16 hHeld ⊢
    obtain ⟨g,hg⟩ : ∃ g,w5.heap.size = g:=⟨_,rfl⟩
    rw [hg] at S6 ⊢
    refine pure_ (i:=0) (N:=some 19) (v:=?_) (a':=?_) #[true,false,false,false,false] rfl rfl (by kernel_rfl) (fun _ _ _ h=>h) (Or.inl ⟨by rfl,?_⟩) ?_ ?_
    rotate_left
    · intro w';go_simp;with_reducible rfl
    rotate_left
    · simp only [Act.put,List.setIfInBounds_toArray,List.set_cons_zero,List.set_cons_succ,i64_w,i32_w];rfl
    refine pure_ (i:=1) (N:=some 20) (v:=?_) (a':=?_) #[true,true,false,false,false] rfl rfl (by kernel_rfl) (fun _ _ _ h=>h) (Or.inl ⟨by rfl,?_⟩) ?_ ?_
    rotate_left
    · intro w';go_simp;with_reducible rfl
    rotate_left
    · simp only [Act.put,List.setIfInBounds_toArray,List.set_cons_zero,List.set_cons_succ,i64_w,i32_w];rfl
    refine pure_ (i:=2) (N:=some 21) (v:=?_) (a':=?_) #[true,true,true,false,false] rfl rfl (by kernel_rfl) (fun _ _ _ h=>h) (Or.inl ⟨by rfl,?_⟩) ?_ ?_
    rotate_left
    · intro w';go_simp;with_reducible rfl
    rotate_left
    · simp only [Act.put,List.setIfInBounds_toArray,List.set_cons_zero,List.set_cons_succ,i64_w,i32_w];rfl
    refine take_ (i:=3) (N:=some 22) (v:=?_) (a':=?_) #[true,true,true,true,false] rfl rfl (by kernel_rfl) (fun _ _ _ h=>h) (Or.inl ⟨by rfl,?_⟩) hHeld ?_ ?_
    rotate_left
    · rintro w' s0;have q0:=cells4 s0;clear s0;go_simp;with_reducible rfl
    rotate_left
    · simp only [Act.put,List.setIfInBounds_toArray,List.set_cons_zero,List.set_cons_succ,i64_w,i32_w];rfl
    refine last_ (i:=4) (N:=some 23) #[true,true,true,true,true] rfl rfl (by kernel_rfl) (by decide) (fun K hK=>?_)
    refine goes_ Tryz.func30 (by kernel_rfl) rfl #[.pointer (some ⟨g,8,none⟩),.agg #[.slice D0 r.1.length k0,.slice D1 r.2.1.length k1,.int .i64 r.2.2.1,.bool r.2.2.2.1]] (by rfl) rfl rfl (by first | (go_simp;done) | (go_simp;rfl)) ?_
    refine (pushS_calls (x:=(r.1,r.2.1,r.2.2.1,r.2.2.2.1)) (okp:=fun k=>w.heap.size ≤ k) S6.blk rfl S6.ge S6.rs (mine_ R06 (Nat.le_refl _)) (mine_ R16 (Nat.le_refl _)) (fun _ h=>h) (fun k h=>Nat.le_trans hB6.size h) (by decide)).mono ?_
    rintro e w8 ⟨rfl,vs8,G8,RS8,K8,hB8,_⟩
    refine ⟨_,rfl,?_⟩
    have S8:=S6.pushS G8 RS8 K8
    have hB68:=hB6.trans hB8
    clear S6 G8 RS8 K8 hB8 Z6 R06 R16 hB6
    refine hK.out _ _ ?_
    clear hK K
    refine norm_ (a':=?_) ?_ ?_
    rotate_left
    · show Act.put _ (some 23) _ = _
      simp only [Act.put,List.setIfInBounds_toArray,List.set_cons_zero,List.set_cons_succ,i64_w,i32_w];rfl
    refine done_ (by kernel_rfl) ?_
    go_wp2
    go_ret2
    exact .inr ⟨he.out,g,rfl,⟨_,_,_,_,_,_,_,_,S8⟩,hB68⟩
  · have te : (r.2.2.2.2 != 0) = true:=by simpa using he
    replace he:=Lib.hid he
    go_enter Tryz.func11,Tryz.ntmps11
    go_wp2_with (first
      | (go_at_call 28;go_must (refine hst.out.mono ?_;rintro e w3 ⟨u0,u1,rfl,R0,R1,hb3⟩;have hB3:=below_step hx.out.2 hb3;replace R0:=Kd.R_lower R0 hx.out.2.size;replace R1:=Kd.R_lower R1 hx.out.2.size;obtain ⟨D0,k0,rfl⟩:=Kd.R_slice R0;obtain ⟨D1,k1,rfl⟩:=Kd.R_slice R1;have hX:=box1 w3 (.cells #[.slice D0 r.1.length k0,.slice D1 r.2.1.length k1,.int .i64 r.2.2.1,.bool r.2.2.2.1] 57);have P4:=blk_below (blk_below hx.out.1 hb3) hX.2;have p4:=cells8 P4;have hB4:=below_step hB3 hX.2;have Z4:=hX.1;replace R0:=Kd.R_below R0 hX.2;replace R1:=Kd.R_below R1 hX.2;replace hB4:=Lib.hid hB4;replace Z4:=Lib.hid Z4;replace R0:=Lib.hid R0;replace R1:=Lib.hid R1;clear hX hB3 hb3 P4)))
    go_ret2
    exact .inl ⟨he.out,rfl,hB4.out⟩
end Go.Proofs.YtjopbfidjapmbaaGreatDoor.Q
end
