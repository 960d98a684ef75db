/- PART 13 OF A PROOF: Lean functions, and that the program computes them; written by hand and by a program. Not trusted: Lean checks it. -/
import Derived.Test.YtjopbfidjapmbaaGreatDoorTa3
import Derived.Test.YtjopbfidjapmbaaGreatDoorTa9
import Derived.Test.YtjopbfidjapmbaaGreatDoorTa12
set_option linter.unusedVariables false
set_option linter.unusedSimpArgs false
namespace Go.Proofs.YtjopbfidjapmbaaGreatDoor.Q
open Go.RowKit Go.Proofs.YtjopbfidjapmbaaGreatDoorW.PrintWords Go.Proofs.YtjopbfidjapmbaaGreatDoorW.PrintLast Go.Proofs.YtjopbfidjapmbaaGreatDoorW.PrintMore
attribute [local go_sem] max2_int min2_int max_two min_two max_three min_three max_four min_four
set_option linter.unusedVariables false
set_option linter.unusedSimpArgs false
attribute [local go_sem high] eqA35
def session_copied.f (a0_0 : ByteArray) (a0_1 : Int) (a0_2 : Int) (l0_3 : List Bool) (l0_4 : List Bool) (l0_5 : List Bool) (l0_6 : List ByteArray) (l0_7 : List ByteArray) : Option (ByteArray × Int × Int × List Bool × List Bool × List Bool × List ByteArray × List ByteArray):=(slices_Clone_bool_bool.f l0_3).bind fun t167=>((slices_Clone_bool_bool.f l0_4).bind fun t170=>((slices_Clone_bool_bool.f l0_5).bind fun t173=>((slices_Clone_string_string.f l0_6).bind fun t176=>((slices_Clone_string_string.f l0_7).bind fun t179=>(some (a0_0,a0_1,a0_2,t167,t170,t173,t176,t179))))))
def session_copied.T1 : Bool × List (List Nat × List Nat):=(true,[([],[]),([0],[0]),([1],[1]),([2],[2]),([],[]),([4],[4]),([5],[5]),([6,3],[6]),([],[]),([8],[8]),([9],[9]),([10,7],[10]),([0,1,2,3,4,5,6,8,9,10],[]),([12,0,1,2,3,4,5,6,8,9,10],[12]),([13,3,11,0,1,2,3,4,5,6,8,9,10],[3,13]),([0,1,2,3,4,5,6,7,8,9,10,12,13,14],[]),([15,0,1,2,3,4,5,6,7,8,9,10,12,13,14],[15]),([16,7,14,0,1,2,3,4,5,6,7,8,9,10,12,13,14],[7,16]),([0,1,2,3,4,5,6,7,8,9,10,11,12,13,14,15,16,17],[]),([18,0,1,2,3,4,5,6,7,8,9,10,11,12,13,14,15,16,17],[18]),([19,11,17,0,1,2,3,4,5,6,7,8,9,10,11,12,13,14,15,16,17],[11,19])])
def session_copied.B1 : List Nat:=[0,1,3,7,0,16,48,127,0,256,768,2047,1919,6015,16383,32767,65535,131071,262143,524287,1048575]
theorem session_copied.tab1 : rtab .any (opsOf Tryz.f29 1) = session_copied.T1:=by kernel_rfl
theorem session_copied.bits1 : waitsOk session_copied.T1.2 session_copied.B1 = true:=by kernel_rfl
def session_copied.T2 : Bool × List (List Nat × List Nat):=(true,[([],[]),([0],[0]),([1],[1]),([],[]),([3],[3]),([4,2],[4]),([0,1,2,3,4],[]),([6,2,5,0,1,2,3,4],[2,6]),([0,1,2,3,4,5,6,7],[]),([8,5,7,0,1,2,3,4,5,6,7],[5,8])])
def session_copied.B2 : List Nat:=[0,1,3,0,8,31,31,127,255,511]
theorem session_copied.tab2 : rtab .any (opsOf Tryz.f29 2) = session_copied.T2:=by kernel_rfl
theorem session_copied.bits2 : waitsOk session_copied.T2.2 session_copied.B2 = true:=by kernel_rfl
set_option maxHeartbeats 8000000 in
set_option maxRecDepth 100000 in
theorem session_copied.calls (a0_0 : ByteArray) (a0_1 : Int) (a0_2 : Int) (A0_3 : Option Addr) (c0_3 : Nat) (l0_3 : List Bool) (A0_4 : Option Addr) (c0_4 : Nat) (l0_4 : List Bool) (A0_5 : Option Addr) (c0_5 : Nat) (l0_5 : List Bool) (A0_6 : Option Addr) (c0_6 : Nat) (l0_6 : List ByteArray) (A0_7 : Option Addr) (c0_7 : Nat) (l0_7 : List ByteArray) (r1 : ByteArray) (r2 : Int) (r3 : Int) (r4 : List Bool) (r5 : List Bool) (r6 : List Bool) (r7 : List ByteArray) (r8 : List ByteArray) (w : World) (hr0_3 : Kd.C Kd.bool w A0_3 l0_3.length l0_3) (hc0_3 : l0_3.length ≤ c0_3) (hr0_4 : Kd.C Kd.bool w A0_4 l0_4.length l0_4) (hc0_4 : l0_4.length ≤ c0_4) (hr0_5 : Kd.C Kd.bool w A0_5 l0_5.length l0_5) (hc0_5 : l0_5.length ≤ c0_5) (hr0_6 : Kd.C Kd.string w A0_6 l0_6.length l0_6) (hc0_6 : l0_6.length ≤ c0_6) (hr0_7 : Kd.C Kd.string w A0_7 l0_7.length l0_7) (hc0_7 : l0_7.length ≤ c0_7) (h : session_copied.f a0_0 a0_1 a0_2 l0_3 l0_4 l0_5 l0_6 l0_7 = some (r1,r2,r3,r4,r5,r6,r7,r8)) :
  Calls Tryz.prog 29 #[.agg #[.string a0_0,.int .i64 a0_1,.int .i64 a0_2,.slice A0_3 l0_3.length c0_3,.slice A0_4 l0_4.length c0_4,.slice A0_5 l0_5.length c0_5,.slice A0_6 l0_6.length c0_6,.slice A0_7 l0_7.length c0_7]] w fun e w'=>∃ v3_ v4_ v5_ v6_ v7_ : Value,e = .returned (.agg #[.string r1,.int .i64 r2,.int .i64 r3,v3_,v4_,v5_,v6_,v7_]) ∧ Kd.R Kd.bool 4 w' w.heap.size (fun k_=>some k_ ≠ (v4_ : Value).ownBlock ∧ some k_ ≠ (v5_ : Value).ownBlock) v3_ r4 ∧ Kd.R Kd.bool 4 w' w.heap.size (fun k_=>some k_ ≠ (v3_ : Value).ownBlock ∧ some k_ ≠ (v5_ : Value).ownBlock) v4_ r5 ∧ Kd.R Kd.bool 4 w' w.heap.size (fun k_=>some k_ ≠ (v3_ : Value).ownBlock ∧ some k_ ≠ (v4_ : Value).ownBlock) v5_ r6 ∧ Kd.R Kd.string 9 w' w.heap.size (fun k_=>some k_ ≠ (v7_ : Value).ownBlock) v6_ r7 ∧ Kd.R Kd.string 9 w' w.heap.size (fun k_=>some k_ ≠ (v6_ : Value).ownBlock) v7_ r8 ∧ Below w.heap.size w w':=by
 have hu42:=Tryz.underlying42
 have HR0_3:=Aside0.mk hr0_3
 have HC0_3:=Aside0.mk hc0_3
 clear hr0_3 hc0_3
 have HR0_4:=Aside0.mk hr0_4
 have HC0_4:=Aside0.mk hc0_4
 clear hr0_4 hc0_4
 have HR0_5:=Aside0.mk hr0_5
 have HC0_5:=Aside0.mk hc0_5
 clear hr0_5 hc0_5
 have HR0_6:=Aside0.mk hr0_6
 have HC0_6:=Aside0.mk hc0_6
 clear hr0_6 hc0_6
 have HR0_7:=Aside0.mk hr0_7
 have HC0_7:=Aside0.mk hc0_7
 clear hr0_7 hc0_7
 have HB:=Aside0.mk (Below.refl w.heap.size w)
 have H : ((slices_Clone_bool_bool.f l0_3).bind fun t167=>((slices_Clone_bool_bool.f l0_4).bind fun t170=>((slices_Clone_bool_bool.f l0_5).bind fun t173=>((slices_Clone_string_string.f l0_6).bind fun t176=>((slices_Clone_string_string.f l0_7).bind fun t179=>(some (a0_0,a0_1,a0_2,t167,t170,t173,t176,t179))))))) = some (r1,r2,r3,r4,r5,r6,r7,r8):=h
 clear h
 replace H:=Option.bind_eq_some_iff.mp H
 obtain ⟨t167,A20,H⟩:=H
 replace H : ((slices_Clone_bool_bool.f l0_4).bind fun t170=>((slices_Clone_bool_bool.f l0_5).bind fun t173=>((slices_Clone_string_string.f l0_6).bind fun t176=>((slices_Clone_string_string.f l0_7).bind fun t179=>(some (a0_0,a0_1,a0_2,t167,t170,t173,t176,t179)))))) = some (r1,r2,r3,r4,r5,r6,r7,r8):=H
 have A2:=Aside0.mk A20
 clear A20
 replace H:=Option.bind_eq_some_iff.mp H
 obtain ⟨t170,A30,H⟩:=H
 replace H : ((slices_Clone_bool_bool.f l0_5).bind fun t173=>((slices_Clone_string_string.f l0_6).bind fun t176=>((slices_Clone_string_string.f l0_7).bind fun t179=>(some (a0_0,a0_1,a0_2,t167,t170,t173,t176,t179))))) = some (r1,r2,r3,r4,r5,r6,r7,r8):=H
 have A3:=Aside0.mk A30
 clear A30
 replace H:=Option.bind_eq_some_iff.mp H
 obtain ⟨t173,A40,H⟩:=H
 replace H : ((slices_Clone_string_string.f l0_6).bind fun t176=>((slices_Clone_string_string.f l0_7).bind fun t179=>(some (a0_0,a0_1,a0_2,t167,t170,t173,t176,t179)))) = some (r1,r2,r3,r4,r5,r6,r7,r8):=H
 have A4:=Aside0.mk A40
 clear A40
 replace H:=Option.bind_eq_some_iff.mp H
 obtain ⟨t176,A50,H⟩:=H
 replace H : ((slices_Clone_string_string.f l0_7).bind fun t179=>(some (a0_0,a0_1,a0_2,t167,t170,t173,t176,t179))) = some (r1,r2,r3,r4,r5,r6,r7,r8):=H
 have A5:=Aside0.mk A50
 clear A50
 replace H:=Option.bind_eq_some_iff.mp H
 obtain ⟨t179,A60,H⟩:=H
 replace H : (some (a0_0,a0_1,a0_2,t167,t170,t173,t176,t179)) = some (r1,r2,r3,r4,r5,r6,r7,r8):=H
 have A6:=Aside0.mk A60
 clear A60
 simp only [Option.some.injEq,Prod.mk.injEq] at H
 obtain ⟨rfl,rfl,rfl,rfl,rfl,rfl,rfl,rfl⟩:=H
 go_enter Tryz.func29,Tryz.ntmps29
 try go_wp2_with (first | ((with_reducible refine gate_dst (N:=1) rfl ?_);refine box_event ?hg (N:=1) ?hd (cs:=#[.string a0_0,.int .i64 a0_1,.int .i64 a0_2,.slice A0_3 l0_3.length c0_3,.slice A0_4 l0_4.length c0_4,.slice A0_5 l0_5.length c0_5,.slice A0_6 l0_6.length c0_6,.slice A0_7 l0_7.length c0_7]) (t:=42) ?hr ?_;(case hd=>rfl);(case hg=>rfl);(case hr=>first | (go_simp;done) | (go_simp;rfl));intro gb165 hg w7 hbox hb;have n0_:=Aside0.mk (below_step (by repeat (first | (with_reducible first | exact HB.out | apply below_alloc | apply pw_below_drewN | apply below_drew1) | exact HB.out)) hb);have n1_:=Aside0.mk (hbox);have n2_:=Aside0.mk ((by rw [hg];exact (below_size (by repeat (first | (with_reducible first | exact HB.out | apply below_alloc | apply pw_below_drewN | apply below_drew1) | exact HB.out))) : w.heap.size ≤ gb165));have n3_:=Aside0.mk ((by rw [hg];exact (below_size (by repeat (first | (with_reducible first | exact HB.out | apply below_alloc | apply pw_below_drewN | apply below_drew1) | exact HB.out))) : w.heap.size ≤ gb165));clear HB;have HB:=n0_;have BK165:=n1_;have GW165:=n2_;have GE165:=n3_;clear n0_ n1_ n2_ n3_;clear hb hbox hg) | ((with_reducible refine gate_dst (N:=2) rfl ?_);refine box_event ?hg (N:=2) ?hd (cs:=#[.string (⟨#[]⟩ : ByteArray),.int .i64 0,.int .i64 0,.slice none 0 0,.slice none 0 0,.slice none 0 0,.slice none 0 0,.slice none 0 0]) (t:=42) ?hr ?_;(case hd=>rfl);(case hg=>rfl);(case hr=>first | (go_simp;done) | (go_simp;rfl));intro gb166 hg w8 hbox hb;have n0_:=Aside0.mk (blk_below (g:=gb165) (o:=.cells #[.string a0_0,.int .i64 a0_1,.int .i64 a0_2,.slice A0_3 l0_3.length c0_3,.slice A0_4 l0_4.length c0_4,.slice A0_5 l0_5.length c0_5,.slice A0_6 l0_6.length c0_6,.slice A0_7 l0_7.length c0_7] 42 (0,0)) (by (with_reducible repeat (first | refine blk_drewN ?_ _ | refine blk_drew ?_ | refine blk_alloc ?_ _));exact BK165.out) hb);have n1_:=Aside0.mk (below_step (by repeat (first | (with_reducible first | exact HB.out | apply below_alloc | apply pw_below_drewN | apply below_drew1 | refine below_set ?_ GE165.out) | exact HB.out)) hb);have n2_:=Aside0.mk (hbox);have n3_:=Aside0.mk ((by rw [hg];exact (below_size (by repeat (first | (with_reducible first | exact HB.out | apply below_alloc | apply pw_below_drewN | apply below_drew1 | refine below_set ?_ GE165.out) | exact HB.out))) : w.heap.size ≤ gb166));have n4_:=Aside0.mk ((by rw [hg];exact (below_size (by repeat (first | (with_reducible first | exact HB.out | apply below_alloc | apply pw_below_drewN | apply below_drew1 | refine below_set ?_ GE165.out) | exact HB.out))) : w.heap.size ≤ gb166));have n5_:=Aside0.mk ((by rw [hg];exact Nat.ne_of_lt (blk_lt (g:=gb165) (o:=.cells #[.string a0_0,.int .i64 a0_1,.int .i64 a0_2,.slice A0_3 l0_3.length c0_3,.slice A0_4 l0_4.length c0_4,.slice A0_5 l0_5.length c0_5,.slice A0_6 l0_6.length c0_6,.slice A0_7 l0_7.length c0_7] 42 (0,0)) (by (with_reducible repeat (first | refine blk_drewN ?_ _ | refine blk_drew ?_ | refine blk_alloc ?_ _));exact BK165.out)) : gb165 ≠ gb166));have n6_:=Aside0.mk ((by rw [hg];exact Nat.ne_of_gt (blk_lt (g:=gb165) (o:=.cells #[.string a0_0,.int .i64 a0_1,.int .i64 a0_2,.slice A0_3 l0_3.length c0_3,.slice A0_4 l0_4.length c0_4,.slice A0_5 l0_5.length c0_5,.slice A0_6 l0_6.length c0_6,.slice A0_7 l0_7.length c0_7] 42 (0,0)) (by (with_reducible repeat (first | refine blk_drewN ?_ _ | refine blk_drew ?_ | refine blk_alloc ?_ _));exact BK165.out)) : gb166 ≠ gb165));clear BK165;clear HB;have BK165:=n0_;have HB:=n1_;have BK166:=n2_;have GW166:=n3_;have GE166:=n4_;have NB165_166:=n5_;have NB166_165:=n6_;clear n0_ n1_ n2_ n3_ n4_ n5_ n6_;clear hb hbox hg))
 have n0_:=Aside0.mk (blk_drew BK165.out)
 have n1_:=Aside0.mk (blk_drew BK166.out)
 have n2_:=Aside0.mk (below_drew1 HB.out)
 clear BK165
 clear BK166
 clear HB
 have BK165:=n0_
 have BK166:=n1_
 have HB:=n2_
 clear n0_ n1_ n2_
 refine start_ (n:=21) (S:=fun w'=>w'.cell? ⟨gb165,0,none⟩ = some (.string a0_0) ∧ w'.cell? ⟨gb165,1,none⟩ = some (.int .i64 a0_1) ∧ w'.cell? ⟨gb165,2,none⟩ = some (.int .i64 a0_2) ∧ w'.cell? ⟨gb165,3,none⟩ = some (.slice A0_3 l0_3.length c0_3) ∧ w'.cell? ⟨gb165,4,none⟩ = some (.slice A0_4 l0_4.length c0_4) ∧ w'.cell? ⟨gb165,5,none⟩ = some (.slice A0_5 l0_5.length c0_5) ∧ w'.cell? ⟨gb165,6,none⟩ = some (.slice A0_6 l0_6.length c0_6) ∧ w'.cell? ⟨gb165,7,none⟩ = some (.slice A0_7 l0_7.length c0_7)) (ds:=[14,17,20]) #[false,false,false,false,false,false,false,false,false,false,false,false,false,false,false,false,false,false,false,false,false] (by kernel_rfl) rfl rfl ⟨(blk_cell BK165.out 0).trans rfl,(blk_cell BK165.out 1).trans rfl,(blk_cell BK165.out 2).trans rfl,(blk_cell BK165.out 3).trans rfl,(blk_cell BK165.out 4).trans rfl,(blk_cell BK165.out 5).trans rfl,(blk_cell BK165.out 6).trans rfl,(blk_cell BK165.out 7).trans rfl⟩ (fun hHeld=>?_);refine with_tabW session_copied.tab1 session_copied.bits1 (fun HT_ HW_=>?_)
 generalize w8.drew = w9 at BK165 BK166 HB hHeld ⊢
 refine pure_ (i:=0) (N:=some 3) (v:=?_) (a':=?_) #[true,false,false,false,false,false,false,false,false,false,false,false,false,false,false,false,false,false,false,false,false] rfl rfl (any_of HT_.out (by kernel_rfl)) (fun _ _ _ h=>h) (Or.inl ⟨by rfl,?_⟩) ?_ ?_
 rotate_left
 ·intro w'
  go_simp
  with_reducible rfl
 rotate_left
 ·simp only [Act.put,List.setIfInBounds_toArray,List.set_cons_zero,List.set_cons_succ,i64_w,i32_w]
  rfl
 refine pure_ (i:=1) (N:=some 4) (v:=?_) (a':=?_) #[true,true,false,false,false,false,false,false,false,false,false,false,false,false,false,false,false,false,false,false,false] rfl rfl (any_of HT_.out (by kernel_rfl)) (fun _ _ _ h=>h) (Or.inl ⟨by rfl,?_⟩) ?_ ?_
 rotate_left
 ·intro w'
  go_simp
  with_reducible rfl
 rotate_left
 ·simp only [Act.put,List.setIfInBounds_toArray,List.set_cons_zero,List.set_cons_succ,i64_w,i32_w]
  rfl
 refine pure_ (i:=4) (N:=some 7) (v:=?_) (a':=?_) #[true,true,false,false,true,false,false,false,false,false,false,false,false,false,false,false,false,false,false,false,false] rfl rfl (any_of HT_.out (by kernel_rfl)) (fun _ _ _ h=>h) (Or.inl ⟨by rfl,?_⟩) ?_ ?_
 rotate_left
 ·intro w'
  go_simp
  with_reducible rfl
 rotate_left
 ·simp only [Act.put,List.setIfInBounds_toArray,List.set_cons_zero,List.set_cons_succ,i64_w,i32_w]
  rfl
 refine pure_ (i:=5) (N:=some 8) (v:=?_) (a':=?_) #[true,true,false,false,true,true,false,false,false,false,false,false,false,false,false,false,false,false,false,false,false] rfl rfl (any_of HT_.out (by kernel_rfl)) (fun _ _ _ h=>h) (Or.inl ⟨by rfl,?_⟩) ?_ ?_
 rotate_left
 ·intro w'
  go_simp
  with_reducible rfl
 rotate_left
 ·simp only [Act.put,List.setIfInBounds_toArray,List.set_cons_zero,List.set_cons_succ,i64_w,i32_w]
  rfl
 refine pure_ (i:=8) (N:=some 11) (v:=?_) (a':=?_) #[true,true,false,false,true,true,false,false,true,false,false,false,false,false,false,false,false,false,false,false,false] rfl rfl (any_of HT_.out (by kernel_rfl)) (fun _ _ _ h=>h) (Or.inl ⟨by rfl,?_⟩) ?_ ?_
 rotate_left
 ·intro w'
  go_simp
  with_reducible rfl
 rotate_left
 ·simp only [Act.put,List.setIfInBounds_toArray,List.set_cons_zero,List.set_cons_succ,i64_w,i32_w]
  rfl
 refine pure_ (i:=9) (N:=some 12) (v:=?_) (a':=?_) #[true,true,false,false,true,true,false,false,true,true,false,false,false,false,false,false,false,false,false,false,false] rfl rfl (any_of HT_.out (by kernel_rfl)) (fun _ _ _ h=>h) (Or.inl ⟨by rfl,?_⟩) ?_ ?_
 rotate_left
 ·intro w'
  go_simp
  with_reducible rfl
 rotate_left
 ·simp only [Act.put,List.setIfInBounds_toArray,List.set_cons_zero,List.set_cons_succ,i64_w,i32_w]
  rfl
 refine take_ (i:=2) (N:=some 5) (v:=?_) (a':=?_) #[true,true,true,false,true,true,false,false,true,true,false,false,false,false,false,false,false,false,false,false,false] rfl rfl (take_ofW HT_.out HW_.out (by kernel_rfl)) (fun _ _ _ h=>h) (Or.inl ⟨by rfl,?_⟩) hHeld ?_ ?_
 rotate_left
 ·rintro w' ⟨s0,s1,s2,s3,s4,s5,s6,s7⟩
  go_simp
  with_reducible rfl
 rotate_left
 ·simp only [Act.put,List.setIfInBounds_toArray,List.set_cons_zero,List.set_cons_succ,i64_w,i32_w]
  rfl
 refine take_ (i:=6) (N:=some 9) (v:=?_) (a':=?_) #[true,true,true,false,true,true,true,false,true,true,false,false,false,false,false,false,false,false,false,false,false] rfl rfl (take_ofW HT_.out HW_.out (by kernel_rfl)) (fun _ _ _ h=>h) (Or.inl ⟨by rfl,?_⟩) hHeld ?_ ?_
 rotate_left
 ·rintro w' ⟨s0,s1,s2,s3,s4,s5,s6,s7⟩
  go_simp
  with_reducible rfl
 rotate_left
 ·simp only [Act.put,List.setIfInBounds_toArray,List.set_cons_zero,List.set_cons_succ,i64_w,i32_w]
  rfl
 refine take_ (i:=10) (N:=some 13) (v:=?_) (a':=?_) #[true,true,true,false,true,true,true,false,true,true,true,false,false,false,false,false,false,false,false,false,false] rfl rfl (take_ofW HT_.out HW_.out (by kernel_rfl)) (fun _ _ _ h=>h) (Or.inl ⟨by rfl,?_⟩) hHeld ?_ ?_
 rotate_left
 ·rintro w' ⟨s0,s1,s2,s3,s4,s5,s6,s7⟩
  go_simp
  with_reducible rfl
 rotate_left
 ·simp only [Act.put,List.setIfInBounds_toArray,List.set_cons_zero,List.set_cons_succ,i64_w,i32_w]
  rfl
 refine one_ (i:=3) (N:=some 6) #[true,true,true,true,true,true,true,false,true,true,true,false,false,false,false,false,false,false,false,false,false] rfl rfl (one_of HT_.out (by kernel_rfl)) (by decide) (fun K hK=>?_)
 refine goes_ Tryz.func39 (by kernel_rfl) rfl #[.slice A0_3 l0_3.length c0_3] (by rfl) rfl rfl (by (try simp only [List.map_toArray,List.map_cons,List.map_nil]);first | done | rfl | (simp only [List.length_drop,List.length_take];rfl)) ?_
 with_reducible refine (slices_Clone_bool_bool.calls _ _ l0_3 t167 _ ?side1 ?side2 A2.out).mono ?_
 (case side1=>repeat (first | exact (Kd.C_below HR0_3.out HB.out) | (with_reducible refine Kd.C_alloc ?_ _) | (with_reducible refine Kd.C_drewN ?_ _) | (with_reducible refine Kd.C_drew ?_)))
 (case side2=>exact HC0_3.out)
 rintro e w10 ⟨v168,rfl,ho0,hb⟩
 refine ⟨_,rfl,?_⟩
 have n0_:=Aside0.mk (Kd.R_lower ho0 (below_size (by repeat (first | (with_reducible first | exact HB.out | apply below_alloc | apply pw_below_drewN | apply below_drew1 | refine below_set ?_ GE165.out | refine below_set ?_ GE166.out) | exact HB.out))))
 have n1_:=Aside0.mk (blk_below (g:=gb165) (o:=.cells #[.string a0_0,.int .i64 a0_1,.int .i64 a0_2,.slice A0_3 l0_3.length c0_3,.slice A0_4 l0_4.length c0_4,.slice A0_5 l0_5.length c0_5,.slice A0_6 l0_6.length c0_6,.slice A0_7 l0_7.length c0_7] 42 (0,0)) (by (with_reducible repeat (first | refine blk_drewN ?_ _ | refine blk_drew ?_ | refine blk_alloc ?_ _));exact BK165.out) hb)
 have n2_:=Aside0.mk (blk_below (g:=gb166) (o:=.cells #[.string (⟨#[]⟩ : ByteArray),.int .i64 0,.int .i64 0,.slice none 0 0,.slice none 0 0,.slice none 0 0,.slice none 0 0,.slice none 0 0] 42 (0,0)) (by (with_reducible repeat (first | refine blk_drewN ?_ _ | refine blk_drew ?_ | refine blk_alloc ?_ _));exact BK166.out) hb)
 have n3_:=Aside0.mk (below_step (by repeat (first | (with_reducible first | exact HB.out | apply below_alloc | apply pw_below_drewN | apply below_drew1 | refine below_set ?_ GE165.out | refine below_set ?_ GE166.out) | exact HB.out)) hb)
 clear BK165
 clear BK166
 clear HB
 have HO169:=n0_
 have BK165:=n1_
 have BK166:=n2_
 have HB:=n3_
 clear n0_ n1_ n2_ n3_
 (try clear hb)
 (try clear hb2)
 (try clear hk)
 (try clear hi)
 (try clear ho0)
 refine hK.out _ _ ⟨(blk_cell BK165.out 0).trans rfl,(blk_cell BK165.out 1).trans rfl,(blk_cell BK165.out 2).trans rfl,(blk_cell BK165.out 3).trans rfl,(blk_cell BK165.out 4).trans rfl,(blk_cell BK165.out 5).trans rfl,(blk_cell BK165.out 6).trans rfl,(blk_cell BK165.out 7).trans rfl⟩ (fun hHeld=>?_)
 clear hK K
 refine norm_ (a':=?_) ?_ ?_
 rotate_left
 ·show Act.put _ (some 6) _ = _
  simp only [Act.put,List.setIfInBounds_toArray,List.set_cons_zero,List.set_cons_succ,i64_w,i32_w]
  rfl
 refine pure_ (i:=12) (N:=some 15) (v:=?_) (a':=?_) #[true,true,true,true,true,true,true,false,true,true,true,false,true,false,false,false,false,false,false,false,false] rfl rfl (any_of HT_.out (by kernel_rfl)) (fun _ _ _ h=>h) (Or.inl ⟨by rfl,?_⟩) ?_ ?_
 rotate_left
 ·intro w'
  go_simp
  with_reducible rfl
 rotate_left
 ·simp only [Act.put,List.setIfInBounds_toArray,List.set_cons_zero,List.set_cons_succ,i64_w,i32_w]
  rfl
 refine pure_ (i:=13) (N:=some 16) (v:=?_) (a':=?_) #[true,true,true,true,true,true,true,false,true,true,true,false,true,true,false,false,false,false,false,false,false] rfl rfl (any_of HT_.out (by kernel_rfl)) (fun _ _ _ h=>h) (Or.inl ⟨by rfl,?_⟩) ?_ ?_
 rotate_left
 ·intro w'
  go_simp
  with_reducible rfl
 rotate_left
 ·simp only [Act.put,List.setIfInBounds_toArray,List.set_cons_zero,List.set_cons_succ,i64_w,i32_w]
  rfl
 refine one_ (i:=7) (N:=some 10) #[true,true,true,true,true,true,true,true,true,true,true,false,true,true,false,false,false,false,false,false,false] rfl rfl (one_of HT_.out (by kernel_rfl)) (by decide) (fun K hK=>?_)
 refine goes_ Tryz.func39 (by kernel_rfl) rfl #[.slice A0_4 l0_4.length c0_4] (by rfl) rfl rfl (by (try simp only [List.map_toArray,List.map_cons,List.map_nil]);first | done | rfl | (simp only [List.length_drop,List.length_take];rfl)) ?_
 with_reducible refine (slices_Clone_bool_bool.calls _ _ l0_4 t170 _ ?side1 ?side2 A3.out).mono ?_
 (case side1=>repeat (first | exact (Kd.C_below HR0_4.out HB.out) | (with_reducible refine Kd.C_alloc ?_ _) | (with_reducible refine Kd.C_drewN ?_ _) | (with_reducible refine Kd.C_drew ?_)))
 (case side2=>exact HC0_4.out)
 rintro e w11 ⟨v171,rfl,ho0,hb⟩
 refine ⟨_,rfl,?_⟩
 have n0_:=Aside0.mk (Kd.R_elder' (by (with_reducible repeat (first | apply Kd.R_alloc | apply Kd.R_drewN | apply Kd.R_drew));exact HO169.out) (Kd.R_base ho0) hb)
 have n1_:=Aside0.mk (Kd.R_lower (Kd.R_new' ho0 (Kd.R_lt (by (with_reducible repeat (first | apply Kd.R_alloc | apply Kd.R_drewN | apply Kd.R_drew));exact HO169.out))) (below_size (by repeat (first | (with_reducible first | exact HB.out | apply below_alloc | apply pw_below_drewN | apply below_drew1 | refine below_set ?_ GE165.out | refine below_set ?_ GE166.out) | exact HB.out))))
 have n2_:=Aside0.mk (blk_below (g:=gb165) (o:=.cells #[.string a0_0,.int .i64 a0_1,.int .i64 a0_2,.slice A0_3 l0_3.length c0_3,.slice A0_4 l0_4.length c0_4,.slice A0_5 l0_5.length c0_5,.slice A0_6 l0_6.length c0_6,.slice A0_7 l0_7.length c0_7] 42 (0,0)) (by (with_reducible repeat (first | refine blk_drewN ?_ _ | refine blk_drew ?_ | refine blk_alloc ?_ _));exact BK165.out) hb)
 have n3_:=Aside0.mk (blk_below (g:=gb166) (o:=.cells #[.string (⟨#[]⟩ : ByteArray),.int .i64 0,.int .i64 0,.slice none 0 0,.slice none 0 0,.slice none 0 0,.slice none 0 0,.slice none 0 0] 42 (0,0)) (by (with_reducible repeat (first | refine blk_drewN ?_ _ | refine blk_drew ?_ | refine blk_alloc ?_ _));exact BK166.out) hb)
 have n4_:=Aside0.mk (below_step (by repeat (first | (with_reducible first | exact HB.out | apply below_alloc | apply pw_below_drewN | apply below_drew1 | refine below_set ?_ GE165.out | refine below_set ?_ GE166.out) | exact HB.out)) hb)
 clear HO169
 clear BK165
 clear BK166
 clear HB
 have HO169:=n0_
 have HO172:=n1_
 have BK165:=n2_
 have BK166:=n3_
 have HB:=n4_
 clear n0_ n1_ n2_ n3_ n4_
 (try clear hb)
 (try clear hb2)
 (try clear hk)
 (try clear hi)
 (try clear ho0)
 refine hK.out _ _ ⟨(blk_cell BK165.out 0).trans rfl,(blk_cell BK165.out 1).trans rfl,(blk_cell BK165.out 2).trans rfl,(blk_cell BK165.out 3).trans rfl,(blk_cell BK165.out 4).trans rfl,(blk_cell BK165.out 5).trans rfl,(blk_cell BK165.out 6).trans rfl,(blk_cell BK165.out 7).trans rfl⟩ (fun hHeld=>?_)
 clear hK K
 refine norm_ (a':=?_) ?_ ?_
 rotate_left
 ·show Act.put _ (some 10) _ = _
  simp only [Act.put,List.setIfInBounds_toArray,List.set_cons_zero,List.set_cons_succ,i64_w,i32_w]
  rfl
 refine one_ (i:=11) (N:=some 14) #[true,true,true,true,true,true,true,true,true,true,true,true,true,true,false,false,false,false,false,false,false] rfl rfl (one_of HT_.out (by kernel_rfl)) (by decide) (fun K hK=>?_)
 refine goes_ Tryz.func39 (by kernel_rfl) rfl #[.slice A0_5 l0_5.length c0_5] (by rfl) rfl rfl (by (try simp only [List.map_toArray,List.map_cons,List.map_nil]);first | done | rfl | (simp only [List.length_drop,List.length_take];rfl)) ?_
 with_reducible refine (slices_Clone_bool_bool.calls _ _ l0_5 t173 _ ?side1 ?side2 A4.out).mono ?_
 (case side1=>repeat (first | exact (Kd.C_below HR0_5.out HB.out) | (with_reducible refine Kd.C_alloc ?_ _) | (with_reducible refine Kd.C_drewN ?_ _) | (with_reducible refine Kd.C_drew ?_)))
 (case side2=>exact HC0_5.out)
 rintro e w12 ⟨v174,rfl,ho0,hb⟩
 refine ⟨_,rfl,?_⟩
 have n0_:=Aside0.mk (Kd.R_elder' (by (with_reducible repeat (first | apply Kd.R_alloc | apply Kd.R_drewN | apply Kd.R_drew));exact HO169.out) (Kd.R_base ho0) hb)
 have n1_:=Aside0.mk (Kd.R_elder' (by (with_reducible repeat (first | apply Kd.R_alloc | apply Kd.R_drewN | apply Kd.R_drew));exact HO172.out) (Kd.R_base ho0) hb)
 have n2_:=Aside0.mk (Kd.R_lower (Kd.R_new' (Kd.R_new' ho0 (Kd.R_lt (by (with_reducible repeat (first | apply Kd.R_alloc | apply Kd.R_drewN | apply Kd.R_drew));exact HO169.out))) (Kd.R_lt (by (with_reducible repeat (first | apply Kd.R_alloc | apply Kd.R_drewN | apply Kd.R_drew));exact HO172.out))) (below_size (by repeat (first | (with_reducible first | exact HB.out | apply below_alloc | apply pw_below_drewN | apply below_drew1 | refine below_set ?_ GE165.out | refine below_set ?_ GE166.out) | exact HB.out))))
 have n3_:=Aside0.mk (blk_below (g:=gb165) (o:=.cells #[.string a0_0,.int .i64 a0_1,.int .i64 a0_2,.slice A0_3 l0_3.length c0_3,.slice A0_4 l0_4.length c0_4,.slice A0_5 l0_5.length c0_5,.slice A0_6 l0_6.length c0_6,.slice A0_7 l0_7.length c0_7] 42 (0,0)) (by (with_reducible repeat (first | refine blk_drewN ?_ _ | refine blk_drew ?_ | refine blk_alloc ?_ _));exact BK165.out) hb)
 have n4_:=Aside0.mk (blk_below (g:=gb166) (o:=.cells #[.string (⟨#[]⟩ : ByteArray),.int .i64 0,.int .i64 0,.slice none 0 0,.slice none 0 0,.slice none 0 0,.slice none 0 0,.slice none 0 0] 42 (0,0)) (by (with_reducible repeat (first | refine blk_drewN ?_ _ | refine blk_drew ?_ | refine blk_alloc ?_ _));exact BK166.out) hb)
 have n5_:=Aside0.mk (below_step (by repeat (first | (with_reducible first | exact HB.out | apply below_alloc | apply pw_below_drewN | apply below_drew1 | refine below_set ?_ GE165.out | refine below_set ?_ GE166.out) | exact HB.out)) hb)
 clear HO169
 clear HO172
 clear BK165
 clear BK166
 clear HB
 have HO169:=n0_
 have HO172:=n1_
 have HO175:=n2_
 have BK165:=n3_
 have BK166:=n4_
 have HB:=n5_
 clear n0_ n1_ n2_ n3_ n4_ n5_
 (try clear hb)
 (try clear hb2)
 (try clear hk)
 (try clear hi)
 (try clear ho0)
 obtain ⟨Ao13,co13,eo13⟩:=Kd.R_slice HO169.out
 (first | subst eo13 | (injection eo13 with f1_ f2_ f3_;have f4_:=f1_.symm;have f5_:=f3_.symm;clear f1_ f2_ f3_;subst f4_;subst f5_))
 obtain ⟨Ao15,co15,eo15⟩:=Kd.R_slice HO172.out
 (first | subst eo15 | (injection eo15 with f1_ f2_ f3_;have f4_:=f1_.symm;have f5_:=f3_.symm;clear f1_ f2_ f3_;subst f4_;subst f5_))
 obtain ⟨Ao17,co17,eo17⟩:=Kd.R_slice HO175.out
 (first | subst eo17 | (injection eo17 with f1_ f2_ f3_;have f4_:=f1_.symm;have f5_:=f3_.symm;clear f1_ f2_ f3_;subst f4_;subst f5_))
 refine hK.out _ _ ⟨(blk_cell BK165.out 0).trans rfl,(blk_cell BK165.out 1).trans rfl,(blk_cell BK165.out 2).trans rfl,(blk_cell BK165.out 3).trans rfl,(blk_cell BK165.out 4).trans rfl,(blk_cell BK165.out 5).trans rfl,(blk_cell BK165.out 6).trans rfl,(blk_cell BK165.out 7).trans rfl⟩ (fun hHeld=>?_)
 clear hK K
 refine norm_ (a':=?_) ?_ ?_
 rotate_left
 ·show Act.put _ (some 14) _ = _
  simp only [Act.put,List.setIfInBounds_toArray,List.set_cons_zero,List.set_cons_succ,i64_w,i32_w]
  rfl
 refine last_ (i:=14) (N:=none) #[true,true,true,true,true,true,true,true,true,true,true,true,true,true,true,false,false,false,false,false,false] rfl rfl (one_of HT_.out (by kernel_rfl)) (by decide) (fun K hK=>?_)
 have hs14 : w12.cell? ⟨gb165,3,none⟩ = some (.slice A0_3 l0_3.length c0_3):=(blk_cell BK165.out 3).trans rfl
 have hfs14:=blk_frozen BK165.out 3
 have hns14_1:=NB166_165.out
 have hms14_1:=NB165_166.out
 refine skip_ (w1:=?_) (by rfl) rfl ?_ ?_
 rotate_left
 ·go_simp
  rfl
 refine hK.out _ _ ?_
 clear hK K
 refine pure_ (i:=15) (N:=some 17) (v:=?_) (a':=?_) #[true,true,true,true,true,true,true,true,true,true,true,true,true,true,true,true,false,false,false,false,false] rfl rfl (any_of HT_.out (by kernel_rfl)) (fun _ _ _ h=>h) (Or.inl ⟨by rfl,?_⟩) ?_ ?_
 rotate_left
 ·intro w'
  go_simp
  with_reducible rfl
 rotate_left
 ·simp only [Act.put,List.setIfInBounds_toArray,List.set_cons_zero,List.set_cons_succ,i64_w,i32_w]
  rfl
 refine pure_ (i:=16) (N:=some 18) (v:=?_) (a':=?_) #[true,true,true,true,true,true,true,true,true,true,true,true,true,true,true,true,true,false,false,false,false] rfl rfl (any_of HT_.out (by kernel_rfl)) (fun _ _ _ h=>h) (Or.inl ⟨by rfl,?_⟩) ?_ ?_
 rotate_left
 ·intro w'
  go_simp
  with_reducible rfl
 rotate_left
 ·simp only [Act.put,List.setIfInBounds_toArray,List.set_cons_zero,List.set_cons_succ,i64_w,i32_w]
  rfl
 refine last_ (i:=17) (N:=none) #[true,true,true,true,true,true,true,true,true,true,true,true,true,true,true,true,true,true,false,false,false] rfl rfl (one_of HT_.out (by kernel_rfl)) (by decide) (fun K hK=>?_)
 have hs16 : w12.cell? ⟨gb165,4,none⟩ = some (.slice A0_4 l0_4.length c0_4):=(blk_cell BK165.out 4).trans rfl
 have hfs16:=blk_frozen BK165.out 4
 have hns16_1:=NB166_165.out
 have hms16_1:=NB165_166.out
 refine skip_ (w1:=?_) (by rfl) rfl ?_ ?_
 rotate_left
 ·go_simp
  rfl
 refine hK.out _ _ ?_
 clear hK K
 refine pure_ (i:=18) (N:=some 19) (v:=?_) (a':=?_) #[true,true,true,true,true,true,true,true,true,true,true,true,true,true,true,true,true,true,true,false,false] rfl rfl (any_of HT_.out (by kernel_rfl)) (fun _ _ _ h=>h) (Or.inl ⟨by rfl,?_⟩) ?_ ?_
 rotate_left
 ·intro w'
  go_simp
  with_reducible rfl
 rotate_left
 ·simp only [Act.put,List.setIfInBounds_toArray,List.set_cons_zero,List.set_cons_succ,i64_w,i32_w]
  rfl
 refine pure_ (i:=19) (N:=some 20) (v:=?_) (a':=?_) #[true,true,true,true,true,true,true,true,true,true,true,true,true,true,true,true,true,true,true,true,false] rfl rfl (any_of HT_.out (by kernel_rfl)) (fun _ _ _ h=>h) (Or.inl ⟨by rfl,?_⟩) ?_ ?_
 rotate_left
 ·intro w'
  go_simp
  with_reducible rfl
 rotate_left
 ·simp only [Act.put,List.setIfInBounds_toArray,List.set_cons_zero,List.set_cons_succ,i64_w,i32_w]
  rfl
 refine last_ (i:=20) (N:=none) #[true,true,true,true,true,true,true,true,true,true,true,true,true,true,true,true,true,true,true,true,true] rfl rfl (one_of HT_.out (by kernel_rfl)) (by decide) (fun K hK=>?_)
 have hs18 : w12.cell? ⟨gb165,5,none⟩ = some (.slice A0_5 l0_5.length c0_5):=(blk_cell BK165.out 5).trans rfl
 have hfs18:=blk_frozen BK165.out 5
 have hns18_1:=NB166_165.out
 have hms18_1:=NB165_166.out
 refine skip_ (w1:=?_) (by rfl) rfl ?_ ?_
 rotate_left
 ·go_simp
  rfl
 refine hK.out _ _ ?_
 clear hK K
 refine done_ (done_of HT_.out (by kernel_rfl)) ?_
 try go_wp2
 have n0_ : Aside0 (Kd.R Kd.bool 4 (((w12.setCell ⟨gb165,3,none⟩ (.slice Ao13 t167.length co13)).setCell ⟨gb165,4,none⟩ (.slice Ao15 t170.length co15)).setCell ⟨gb165,5,none⟩ (.slice Ao17 t173.length co17)) w.heap.size (fun k_=>some k_ ≠ (.slice Ao15 t170.length co15 : Value).ownBlock ∧ some k_ ≠ (.slice Ao17 t173.length co17 : Value).ownBlock) (.slice Ao13 t167.length co13) t167):=⟨by (with_reducible repeat (first | apply Kd.R_alloc | apply Kd.R_drewN | apply Kd.R_drew));exact Kd.R_mono (Kd.R_far (p:=⟨gb165,5,none⟩) (Kd.R_far (p:=⟨gb165,4,none⟩) (Kd.R_far (p:=⟨gb165,3,none⟩) (Kd.R_types HO169.out BK165.out (by decide)) (fun _ hk=>hk.2) (.slice Ao13 t167.length co13)) (fun _ hk=>hk.2) (.slice Ao15 t170.length co15)) (fun _ hk=>hk.2) (.slice Ao17 t173.length co17)) (fun _ hk=>⟨hk.1.1.2,hk.1.2⟩)⟩
 have n1_ : Aside0 (Kd.R Kd.bool 4 (((w12.setCell ⟨gb165,3,none⟩ (.slice Ao13 t167.length co13)).setCell ⟨gb165,4,none⟩ (.slice Ao15 t170.length co15)).setCell ⟨gb165,5,none⟩ (.slice Ao17 t173.length co17)) w.heap.size (fun k_=>some k_ ≠ (.slice Ao13 t167.length co13 : Value).ownBlock ∧ some k_ ≠ (.slice Ao17 t173.length co17 : Value).ownBlock) (.slice Ao15 t170.length co15) t170):=⟨by (with_reducible repeat (first | apply Kd.R_alloc | apply Kd.R_drewN | apply Kd.R_drew));exact Kd.R_mono (Kd.R_far (p:=⟨gb165,5,none⟩) (Kd.R_far (p:=⟨gb165,4,none⟩) (Kd.R_far (p:=⟨gb165,3,none⟩) (Kd.R_types HO172.out BK165.out (by decide)) (fun _ hk=>hk.2) (.slice Ao13 t167.length co13)) (fun _ hk=>hk.2) (.slice Ao15 t170.length co15)) (fun _ hk=>hk.2) (.slice Ao17 t173.length co17)) (fun _ hk=>⟨hk.1.1.2,hk.1.2⟩)⟩
 have n2_ : Aside0 (Kd.R Kd.bool 4 (((w12.setCell ⟨gb165,3,none⟩ (.slice Ao13 t167.length co13)).setCell ⟨gb165,4,none⟩ (.slice Ao15 t170.length co15)).setCell ⟨gb165,5,none⟩ (.slice Ao17 t173.length co17)) w.heap.size (fun k_=>some k_ ≠ (.slice Ao13 t167.length co13 : Value).ownBlock ∧ some k_ ≠ (.slice Ao15 t170.length co15 : Value).ownBlock) (.slice Ao17 t173.length co17) t173):=⟨by (with_reducible repeat (first | apply Kd.R_alloc | apply Kd.R_drewN | apply Kd.R_drew));exact Kd.R_mono (Kd.R_far (p:=⟨gb165,5,none⟩) (Kd.R_far (p:=⟨gb165,4,none⟩) (Kd.R_far (p:=⟨gb165,3,none⟩) (Kd.R_types HO175.out BK165.out (by decide)) (fun _ hk=>hk.2) (.slice Ao13 t167.length co13)) (fun _ hk=>hk.2) (.slice Ao15 t170.length co15)) (fun _ hk=>hk.2) (.slice Ao17 t173.length co17)) (fun _ hk=>⟨hk.1.1.2,hk.1.2⟩)⟩
 have n3_ : Aside0 ((((w12.setCell ⟨gb165,3,none⟩ (.slice Ao13 t167.length co13)).setCell ⟨gb165,4,none⟩ (.slice Ao15 t170.length co15)).setCell ⟨gb165,5,none⟩ (.slice Ao17 t173.length co17)).heap[gb165]? = some (.cells #[.string a0_0,.int .i64 a0_1,.int .i64 a0_2,.slice Ao13 t167.length co13,.slice Ao15 t170.length co15,.slice Ao17 t173.length co17,.slice A0_6 l0_6.length c0_6,.slice A0_7 l0_7.length c0_7] 42 (0,0))):=⟨by (with_reducible repeat (first | refine blk_drewN ?_ _ | refine blk_drew ?_ | refine blk_alloc ?_ _));refine blk_put (cs:=#[.string a0_0,.int .i64 a0_1,.int .i64 a0_2,.slice Ao13 t167.length co13,.slice Ao15 t170.length co15,.slice A0_5 l0_5.length c0_5,.slice A0_6 l0_6.length c0_6,.slice A0_7 l0_7.length c0_7]) ?_ 5 _ rfl;(with_reducible repeat (first | refine blk_drewN ?_ _ | refine blk_drew ?_ | refine blk_alloc ?_ _));refine blk_put (cs:=#[.string a0_0,.int .i64 a0_1,.int .i64 a0_2,.slice Ao13 t167.length co13,.slice A0_4 l0_4.length c0_4,.slice A0_5 l0_5.length c0_5,.slice A0_6 l0_6.length c0_6,.slice A0_7 l0_7.length c0_7]) ?_ 4 _ rfl;(with_reducible repeat (first | refine blk_drewN ?_ _ | refine blk_drew ?_ | refine blk_alloc ?_ _));refine blk_put (cs:=#[.string a0_0,.int .i64 a0_1,.int .i64 a0_2,.slice A0_3 l0_3.length c0_3,.slice A0_4 l0_4.length c0_4,.slice A0_5 l0_5.length c0_5,.slice A0_6 l0_6.length c0_6,.slice A0_7 l0_7.length c0_7]) ?_ 3 _ rfl;(with_reducible repeat (first | refine blk_drewN ?_ _ | refine blk_drew ?_ | refine blk_alloc ?_ _));exact BK165.out⟩
 have n4_ : Aside0 ((((w12.setCell ⟨gb165,3,none⟩ (.slice Ao13 t167.length co13)).setCell ⟨gb165,4,none⟩ (.slice Ao15 t170.length co15)).setCell ⟨gb165,5,none⟩ (.slice Ao17 t173.length co17)).heap[gb166]? = some (.cells #[.string (⟨#[]⟩ : ByteArray),.int .i64 0,.int .i64 0,.slice none 0 0,.slice none 0 0,.slice none 0 0,.slice none 0 0,.slice none 0 0] 42 (0,0))):=⟨by (with_reducible repeat (first | refine blk_drewN ?_ _ | refine blk_drew ?_ | refine blk_alloc ?_ _));refine blk_far ?_ NB166_165.out _;(with_reducible repeat (first | refine blk_drewN ?_ _ | refine blk_drew ?_ | refine blk_alloc ?_ _));refine blk_far ?_ NB166_165.out _;(with_reducible repeat (first | refine blk_drewN ?_ _ | refine blk_drew ?_ | refine blk_alloc ?_ _));refine blk_far ?_ NB166_165.out _;(with_reducible repeat (first | refine blk_drewN ?_ _ | refine blk_drew ?_ | refine blk_alloc ?_ _));exact BK166.out⟩
 have n5_ : Aside0 (Below w.heap.size w (((w12.setCell ⟨gb165,3,none⟩ (.slice Ao13 t167.length co13)).setCell ⟨gb165,4,none⟩ (.slice Ao15 t170.length co15)).setCell ⟨gb165,5,none⟩ (.slice Ao17 t173.length co17))):=⟨by repeat (first | (with_reducible first | exact HB.out | apply below_alloc | apply pw_below_drewN | apply below_drew1 | refine below_set ?_ GE165.out | refine below_set ?_ GE166.out) | exact HB.out)⟩
 (try clear HO169)
 (try clear HO172)
 (try clear HO175)
 (try clear BK165)
 (try clear BK166)
 (try clear HB)
 generalize (((w12.setCell ⟨gb165,3,none⟩ (.slice Ao13 t167.length co13)).setCell ⟨gb165,4,none⟩ (.slice Ao15 t170.length co15)).setCell ⟨gb165,5,none⟩ (.slice Ao17 t173.length co17)) = w19 at n0_ n1_ n2_ n3_ n4_ n5_ ⊢
 have HO169:=n0_
 have HO172:=n1_
 have HO175:=n2_
 have BK165:=n3_
 have BK166:=n4_
 have HB:=n5_
 clear n0_ n1_ n2_ n3_ n4_ n5_
 have n0_:=Aside0.mk (Kd.R_drew HO169.out)
 have n1_:=Aside0.mk (Kd.R_drew HO172.out)
 have n2_:=Aside0.mk (Kd.R_drew HO175.out)
 have n3_:=Aside0.mk (blk_drew BK165.out)
 have n4_:=Aside0.mk (blk_drew BK166.out)
 have n5_:=Aside0.mk (below_drew1 HB.out)
 clear HO169
 clear HO172
 clear HO175
 clear BK165
 clear BK166
 clear HB
 have HO169:=n0_
 have HO172:=n1_
 have HO175:=n2_
 have BK165:=n3_
 have BK166:=n4_
 have HB:=n5_
 clear n0_ n1_ n2_ n3_ n4_ n5_
 refine start_ (n:=10) (S:=fun w'=>w'.cell? ⟨gb165,0,none⟩ = some (.string a0_0) ∧ w'.cell? ⟨gb165,1,none⟩ = some (.int .i64 a0_1) ∧ w'.cell? ⟨gb165,2,none⟩ = some (.int .i64 a0_2) ∧ w'.cell? ⟨gb165,3,none⟩ = some (.slice Ao13 t167.length co13) ∧ w'.cell? ⟨gb165,4,none⟩ = some (.slice Ao15 t170.length co15) ∧ w'.cell? ⟨gb165,5,none⟩ = some (.slice Ao17 t173.length co17) ∧ w'.cell? ⟨gb165,6,none⟩ = some (.slice A0_6 l0_6.length c0_6) ∧ w'.cell? ⟨gb165,7,none⟩ = some (.slice A0_7 l0_7.length c0_7)) (ds:=[7,9]) #[false,false,false,false,false,false,false,false,false,false] (by kernel_rfl) rfl rfl ⟨(blk_cell BK165.out 0).trans rfl,(blk_cell BK165.out 1).trans rfl,(blk_cell BK165.out 2).trans rfl,(blk_cell BK165.out 3).trans rfl,(blk_cell BK165.out 4).trans rfl,(blk_cell BK165.out 5).trans rfl,(blk_cell BK165.out 6).trans rfl,(blk_cell BK165.out 7).trans rfl⟩ (fun hHeld=>?_);refine with_tabW session_copied.tab2 session_copied.bits2 (fun HT_ HW_=>?_)
 generalize w19.drew = w20 at HO169 HO172 HO175 BK165 BK166 HB hHeld ⊢
 refine pure_ (i:=0) (N:=some 21) (v:=?_) (a':=?_) #[true,false,false,false,false,false,false,false,false,false] rfl rfl (any_of HT_.out (by kernel_rfl)) (fun _ _ _ h=>h) (Or.inl ⟨by rfl,?_⟩) ?_ ?_
 rotate_left
 ·intro w'
  go_simp
  with_reducible rfl
 rotate_left
 ·simp only [Act.put,List.setIfInBounds_toArray,List.set_cons_zero,List.set_cons_succ,i64_w,i32_w]
  rfl
 refine pure_ (i:=3) (N:=some 24) (v:=?_) (a':=?_) #[true,false,false,true,false,false,false,false,false,false] rfl rfl (any_of HT_.out (by kernel_rfl)) (fun _ _ _ h=>h) (Or.inl ⟨by rfl,?_⟩) ?_ ?_
 rotate_left
 ·intro w'
  go_simp
  with_reducible rfl
 rotate_left
 ·simp only [Act.put,List.setIfInBounds_toArray,List.set_cons_zero,List.set_cons_succ,i64_w,i32_w]
  rfl
 refine take_ (i:=1) (N:=some 22) (v:=?_) (a':=?_) #[true,true,false,true,false,false,false,false,false,false] rfl rfl (take_ofW HT_.out HW_.out (by kernel_rfl)) (fun _ _ _ h=>h) (Or.inl ⟨by rfl,?_⟩) hHeld ?_ ?_
 rotate_left
 ·rintro w' ⟨s0,s1,s2,s3,s4,s5,s6,s7⟩
  go_simp
  with_reducible rfl
 rotate_left
 ·simp only [Act.put,List.setIfInBounds_toArray,List.set_cons_zero,List.set_cons_succ,i64_w,i32_w]
  rfl
 refine take_ (i:=4) (N:=some 25) (v:=?_) (a':=?_) #[true,true,false,true,true,false,false,false,false,false] rfl rfl (take_ofW HT_.out HW_.out (by kernel_rfl)) (fun _ _ _ h=>h) (Or.inl ⟨by rfl,?_⟩) hHeld ?_ ?_
 rotate_left
 ·rintro w' ⟨s0,s1,s2,s3,s4,s5,s6,s7⟩
  go_simp
  with_reducible rfl
 rotate_left
 ·simp only [Act.put,List.setIfInBounds_toArray,List.set_cons_zero,List.set_cons_succ,i64_w,i32_w]
  rfl
 refine one_ (i:=2) (N:=some 23) #[true,true,true,true,true,false,false,false,false,false] rfl rfl (one_of HT_.out (by kernel_rfl)) (by decide) (fun K hK=>?_)
 refine goes_ Tryz.func38 (by kernel_rfl) rfl #[.slice A0_6 l0_6.length c0_6] (by rfl) rfl rfl (by (try simp only [List.map_toArray,List.map_cons,List.map_nil]);first | done | rfl | (simp only [List.length_drop,List.length_take];rfl)) ?_
 with_reducible refine (slices_Clone_string_string.calls _ _ l0_6 t176 _ ?side1 ?side2 A5.out).mono ?_
 (case side1=>repeat (first | exact (Kd.C_below HR0_6.out HB.out) | (with_reducible refine Kd.C_alloc ?_ _) | (with_reducible refine Kd.C_drewN ?_ _) | (with_reducible refine Kd.C_drew ?_)))
 (case side2=>exact HC0_6.out)
 rintro e w21 ⟨v177,rfl,ho0,hb⟩
 refine ⟨_,rfl,?_⟩
 have n0_:=Aside0.mk (Kd.R_below (by (with_reducible repeat (first | apply Kd.R_alloc | apply Kd.R_drewN | apply Kd.R_drew));exact HO169.out) hb)
 have n1_:=Aside0.mk (Kd.R_below (by (with_reducible repeat (first | apply Kd.R_alloc | apply Kd.R_drewN | apply Kd.R_drew));exact HO172.out) hb)
 have n2_:=Aside0.mk (Kd.R_below (by (with_reducible repeat (first | apply Kd.R_alloc | apply Kd.R_drewN | apply Kd.R_drew));exact HO175.out) hb)
 have n3_:=Aside0.mk (Kd.R_lower ho0 (below_size (by repeat (first | (with_reducible first | exact HB.out | apply below_alloc | apply pw_below_drewN | apply below_drew1 | refine below_set ?_ GE165.out | refine below_set ?_ GE166.out) | exact HB.out))))
 have n4_:=Aside0.mk (blk_below (g:=gb165) (o:=.cells #[.string a0_0,.int .i64 a0_1,.int .i64 a0_2,.slice Ao13 t167.length co13,.slice Ao15 t170.length co15,.slice Ao17 t173.length co17,.slice A0_6 l0_6.length c0_6,.slice A0_7 l0_7.length c0_7] 42 (0,0)) (by (with_reducible repeat (first | refine blk_drewN ?_ _ | refine blk_drew ?_ | refine blk_alloc ?_ _));exact BK165.out) hb)
 have n5_:=Aside0.mk (blk_below (g:=gb166) (o:=.cells #[.string (⟨#[]⟩ : ByteArray),.int .i64 0,.int .i64 0,.slice none 0 0,.slice none 0 0,.slice none 0 0,.slice none 0 0,.slice none 0 0] 42 (0,0)) (by (with_reducible repeat (first | refine blk_drewN ?_ _ | refine blk_drew ?_ | refine blk_alloc ?_ _));exact BK166.out) hb)
 have n6_:=Aside0.mk (below_step (by repeat (first | (with_reducible first | exact HB.out | apply below_alloc | apply pw_below_drewN | apply below_drew1 | refine below_set ?_ GE165.out | refine below_set ?_ GE166.out) | exact HB.out)) hb)
 clear HO169
 clear HO172
 clear HO175
 clear BK165
 clear BK166
 clear HB
 have HO169:=n0_
 have HO172:=n1_
 have HO175:=n2_
 have HO178:=n3_
 have BK165:=n4_
 have BK166:=n5_
 have HB:=n6_
 clear n0_ n1_ n2_ n3_ n4_ n5_ n6_
 (try clear hb)
 (try clear hb2)
 (try clear hk)
 (try clear hi)
 (try clear ho0)
 refine hK.out _ _ ⟨(blk_cell BK165.out 0).trans rfl,(blk_cell BK165.out 1).trans rfl,(blk_cell BK165.out 2).trans rfl,(blk_cell BK165.out 3).trans rfl,(blk_cell BK165.out 4).trans rfl,(blk_cell BK165.out 5).trans rfl,(blk_cell BK165.out 6).trans rfl,(blk_cell BK165.out 7).trans rfl⟩ (fun hHeld=>?_)
 clear hK K
 refine norm_ (a':=?_) ?_ ?_
 rotate_left
 ·show Act.put _ (some 23) _ = _
  simp only [Act.put,List.setIfInBounds_toArray,List.set_cons_zero,List.set_cons_succ,i64_w,i32_w]
  rfl
 refine pure_ (i:=6) (N:=some 27) (v:=?_) (a':=?_) #[true,true,true,true,true,false,true,false,false,false] rfl rfl (any_of HT_.out (by kernel_rfl)) (fun _ _ _ h=>h) (Or.inl ⟨by rfl,?_⟩) ?_ ?_
 rotate_left
 ·intro w'
  go_simp
  with_reducible rfl
 rotate_left
 ·simp only [Act.put,List.setIfInBounds_toArray,List.set_cons_zero,List.set_cons_succ,i64_w,i32_w]
  rfl
 refine one_ (i:=5) (N:=some 26) #[true,true,true,true,true,true,true,false,false,false] rfl rfl (one_of HT_.out (by kernel_rfl)) (by decide) (fun K hK=>?_)
 refine goes_ Tryz.func38 (by kernel_rfl) rfl #[.slice A0_7 l0_7.length c0_7] (by rfl) rfl rfl (by (try simp only [List.map_toArray,List.map_cons,List.map_nil]);first | done | rfl | (simp only [List.length_drop,List.length_take];rfl)) ?_
 with_reducible refine (slices_Clone_string_string.calls _ _ l0_7 t179 _ ?side1 ?side2 A6.out).mono ?_
 (case side1=>repeat (first | exact (Kd.C_below HR0_7.out HB.out) | (with_reducible refine Kd.C_alloc ?_ _) | (with_reducible refine Kd.C_drewN ?_ _) | (with_reducible refine Kd.C_drew ?_)))
 (case side2=>exact HC0_7.out)
 rintro e w22 ⟨v180,rfl,ho0,hb⟩
 refine ⟨_,rfl,?_⟩
 have n0_:=Aside0.mk (Kd.R_below (by (with_reducible repeat (first | apply Kd.R_alloc | apply Kd.R_drewN | apply Kd.R_drew));exact HO169.out) hb)
 have n1_:=Aside0.mk (Kd.R_below (by (with_reducible repeat (first | apply Kd.R_alloc | apply Kd.R_drewN | apply Kd.R_drew));exact HO172.out) hb)
 have n2_:=Aside0.mk (Kd.R_below (by (with_reducible repeat (first | apply Kd.R_alloc | apply Kd.R_drewN | apply Kd.R_drew));exact HO175.out) hb)
 have n3_:=Aside0.mk (Kd.R_elder' (by (with_reducible repeat (first | apply Kd.R_alloc | apply Kd.R_drewN | apply Kd.R_drew));exact HO178.out) (Kd.R_base ho0) hb)
 have n4_:=Aside0.mk (Kd.R_lower (Kd.R_new' ho0 (Kd.R_lt (by (with_reducible repeat (first | apply Kd.R_alloc | apply Kd.R_drewN | apply Kd.R_drew));exact HO178.out))) (below_size (by repeat (first | (with_reducible first | exact HB.out | apply below_alloc | apply pw_below_drewN | apply below_drew1 | refine below_set ?_ GE165.out | refine below_set ?_ GE166.out) | exact HB.out))))
 have n5_:=Aside0.mk (blk_below (g:=gb165) (o:=.cells #[.string a0_0,.int .i64 a0_1,.int .i64 a0_2,.slice Ao13 t167.length co13,.slice Ao15 t170.length co15,.slice Ao17 t173.length co17,.slice A0_6 l0_6.length c0_6,.slice A0_7 l0_7.length c0_7] 42 (0,0)) (by (with_reducible repeat (first | refine blk_drewN ?_ _ | refine blk_drew ?_ | refine blk_alloc ?_ _));exact BK165.out) hb)
 have n6_:=Aside0.mk (blk_below (g:=gb166) (o:=.cells #[.string (⟨#[]⟩ : ByteArray),.int .i64 0,.int .i64 0,.slice none 0 0,.slice none 0 0,.slice none 0 0,.slice none 0 0,.slice none 0 0] 42 (0,0)) (by (with_reducible repeat (first | refine blk_drewN ?_ _ | refine blk_drew ?_ | refine blk_alloc ?_ _));exact BK166.out) hb)
 have n7_:=Aside0.mk (below_step (by repeat (first | (with_reducible first | exact HB.out | apply below_alloc | apply pw_below_drewN | apply below_drew1 | refine below_set ?_ GE165.out | refine below_set ?_ GE166.out) | exact HB.out)) hb)
 clear HO169
 clear HO172
 clear HO175
 clear HO178
 clear BK165
 clear BK166
 clear HB
 have HO169:=n0_
 have HO172:=n1_
 have HO175:=n2_
 have HO178:=n3_
 have HO181:=n4_
 have BK165:=n5_
 have BK166:=n6_
 have HB:=n7_
 clear n0_ n1_ n2_ n3_ n4_ n5_ n6_ n7_
 (try clear hb)
 (try clear hb2)
 (try clear hk)
 (try clear hi)
 (try clear ho0)
 obtain ⟨Ao23,co23,eo23⟩:=Kd.R_slice HO178.out
 (first | subst eo23 | (injection eo23 with f1_ f2_ f3_;have f4_:=f1_.symm;have f5_:=f3_.symm;clear f1_ f2_ f3_;subst f4_;subst f5_))
 obtain ⟨Ao25,co25,eo25⟩:=Kd.R_slice HO181.out
 (first | subst eo25 | (injection eo25 with f1_ f2_ f3_;have f4_:=f1_.symm;have f5_:=f3_.symm;clear f1_ f2_ f3_;subst f4_;subst f5_))
 refine hK.out _ _ ⟨(blk_cell BK165.out 0).trans rfl,(blk_cell BK165.out 1).trans rfl,(blk_cell BK165.out 2).trans rfl,(blk_cell BK165.out 3).trans rfl,(blk_cell BK165.out 4).trans rfl,(blk_cell BK165.out 5).trans rfl,(blk_cell BK165.out 6).trans rfl,(blk_cell BK165.out 7).trans rfl⟩ (fun hHeld=>?_)
 clear hK K
 refine norm_ (a':=?_) ?_ ?_
 rotate_left
 ·show Act.put _ (some 26) _ = _
  simp only [Act.put,List.setIfInBounds_toArray,List.set_cons_zero,List.set_cons_succ,i64_w,i32_w]
  rfl
 refine last_ (i:=7) (N:=none) #[true,true,true,true,true,true,true,true,false,false] rfl rfl (one_of HT_.out (by kernel_rfl)) (by decide) (fun K hK=>?_)
 have hs24 : w22.cell? ⟨gb165,6,none⟩ = some (.slice A0_6 l0_6.length c0_6):=(blk_cell BK165.out 6).trans rfl
 have hfs24:=blk_frozen BK165.out 6
 have hns24_1:=NB166_165.out
 have hms24_1:=NB165_166.out
 refine skip_ (w1:=?_) (by rfl) rfl ?_ ?_
 rotate_left
 ·go_simp
  rfl
 refine hK.out _ _ ?_
 clear hK K
 refine pure_ (i:=8) (N:=some 28) (v:=?_) (a':=?_) #[true,true,true,true,true,true,true,true,true,false] rfl rfl (any_of HT_.out (by kernel_rfl)) (fun _ _ _ h=>h) (Or.inl ⟨by rfl,?_⟩) ?_ ?_
 rotate_left
 ·intro w'
  go_simp
  with_reducible rfl
 rotate_left
 ·simp only [Act.put,List.setIfInBounds_toArray,List.set_cons_zero,List.set_cons_succ,i64_w,i32_w]
  rfl
 refine last_ (i:=9) (N:=none) #[true,true,true,true,true,true,true,true,true,true] rfl rfl (one_of HT_.out (by kernel_rfl)) (by decide) (fun K hK=>?_)
 have hs26 : w22.cell? ⟨gb165,7,none⟩ = some (.slice A0_7 l0_7.length c0_7):=(blk_cell BK165.out 7).trans rfl
 have hfs26:=blk_frozen BK165.out 7
 have hns26_1:=NB166_165.out
 have hms26_1:=NB165_166.out
 refine skip_ (w1:=?_) (by rfl) rfl ?_ ?_
 rotate_left
 ·go_simp
  rfl
 refine hK.out _ _ ?_
 clear hK K
 refine done_ (done_of HT_.out (by kernel_rfl)) ?_
 have hnb27:=NB165_166.out
 have hnc27:=NB166_165.out
 have hcz28_0 : w22.cell? ⟨gb165,0,none⟩ = some (.string a0_0):=(blk_cell BK165.out 0).trans rfl
 have hcz28_1 : w22.cell? ⟨gb165,1,none⟩ = some (.int .i64 a0_1):=(blk_cell BK165.out 1).trans rfl
 have hcz28_2 : w22.cell? ⟨gb165,2,none⟩ = some (.int .i64 a0_2):=(blk_cell BK165.out 2).trans rfl
 have hcz28_3 : w22.cell? ⟨gb165,3,none⟩ = some (.slice Ao13 t167.length co13):=(blk_cell BK165.out 3).trans rfl
 have hcz28_4 : w22.cell? ⟨gb165,4,none⟩ = some (.slice Ao15 t170.length co15):=(blk_cell BK165.out 4).trans rfl
 have hcz28_5 : w22.cell? ⟨gb165,5,none⟩ = some (.slice Ao17 t173.length co17):=(blk_cell BK165.out 5).trans rfl
 have hcz28_6 : w22.cell? ⟨gb165,6,none⟩ = some (.slice A0_6 l0_6.length c0_6):=(blk_cell BK165.out 6).trans rfl
 have hcz28_7 : w22.cell? ⟨gb165,7,none⟩ = some (.slice A0_7 l0_7.length c0_7):=(blk_cell BK165.out 7).trans rfl
 have hfz28_0:=blk_frozen BK165.out 0
 have hfz28_1:=blk_frozen BK165.out 1
 have hfz28_2:=blk_frozen BK165.out 2
 have hfz28_3:=blk_frozen BK165.out 3
 have hfz28_4:=blk_frozen BK165.out 4
 have hfz28_5:=blk_frozen BK165.out 5
 have hfz28_6:=blk_frozen BK165.out 6
 have hfz28_7:=blk_frozen BK165.out 7
 have hcz29_0 : w22.cell? ⟨gb166,0,none⟩ = some (.string (⟨#[]⟩ : ByteArray)):=(blk_cell BK166.out 0).trans rfl
 have hcz29_1 : w22.cell? ⟨gb166,1,none⟩ = some (.int .i64 0):=(blk_cell BK166.out 1).trans rfl
 have hcz29_2 : w22.cell? ⟨gb166,2,none⟩ = some (.int .i64 0):=(blk_cell BK166.out 2).trans rfl
 have hcz29_3 : w22.cell? ⟨gb166,3,none⟩ = some (.slice none 0 0):=(blk_cell BK166.out 3).trans rfl
 have hcz29_4 : w22.cell? ⟨gb166,4,none⟩ = some (.slice none 0 0):=(blk_cell BK166.out 4).trans rfl
 have hcz29_5 : w22.cell? ⟨gb166,5,none⟩ = some (.slice none 0 0):=(blk_cell BK166.out 5).trans rfl
 have hcz29_6 : w22.cell? ⟨gb166,6,none⟩ = some (.slice none 0 0):=(blk_cell BK166.out 6).trans rfl
 have hcz29_7 : w22.cell? ⟨gb166,7,none⟩ = some (.slice none 0 0):=(blk_cell BK166.out 7).trans rfl
 have hfz29_0:=blk_frozen BK166.out 0
 have hfz29_1:=blk_frozen BK166.out 1
 have hfz29_2:=blk_frozen BK166.out 2
 have hfz29_3:=blk_frozen BK166.out 3
 have hfz29_4:=blk_frozen BK166.out 4
 have hfz29_5:=blk_frozen BK166.out 5
 have hfz29_6:=blk_frozen BK166.out 6
 have hfz29_7:=blk_frozen BK166.out 7
 try go_wp2
 refine bodyPost_ret (results_cell_row rfl _ _ gb166 42 #[.string a0_0,.int .i64 a0_1,.int .i64 a0_2,.slice Ao13 t167.length co13,.slice Ao15 t170.length co15,.slice Ao17 t173.length co17,.slice Ao23 t176.length co23,.slice Ao25 t179.length co25] (0,0) _ rfl (by (with_reducible repeat (first | refine blk_drewN ?_ _ | refine blk_drew ?_ | refine blk_alloc ?_ _));refine blk_put (cs:=#[.string a0_0,.int .i64 a0_1,.int .i64 a0_2,.slice Ao13 t167.length co13,.slice Ao15 t170.length co15,.slice Ao17 t173.length co17,.slice Ao23 t176.length co23,.slice none 0 0]) ?_ 7 _ rfl;(with_reducible repeat (first | refine blk_drewN ?_ _ | refine blk_drew ?_ | refine blk_alloc ?_ _));refine blk_put (cs:=#[.string a0_0,.int .i64 a0_1,.int .i64 a0_2,.slice Ao13 t167.length co13,.slice Ao15 t170.length co15,.slice Ao17 t173.length co17,.slice none 0 0,.slice none 0 0]) ?_ 6 _ rfl;(with_reducible repeat (first | refine blk_drewN ?_ _ | refine blk_drew ?_ | refine blk_alloc ?_ _));refine blk_put (cs:=#[.string a0_0,.int .i64 a0_1,.int .i64 a0_2,.slice Ao13 t167.length co13,.slice Ao15 t170.length co15,.slice none 0 0,.slice none 0 0,.slice none 0 0]) ?_ 5 _ rfl;(with_reducible repeat (first | refine blk_drewN ?_ _ | refine blk_drew ?_ | refine blk_alloc ?_ _));refine blk_put (cs:=#[.string a0_0,.int .i64 a0_1,.int .i64 a0_2,.slice Ao13 t167.length co13,.slice none 0 0,.slice none 0 0,.slice none 0 0,.slice none 0 0]) ?_ 4 _ rfl;(with_reducible repeat (first | refine blk_drewN ?_ _ | refine blk_drew ?_ | refine blk_alloc ?_ _));refine blk_put (cs:=#[.string a0_0,.int .i64 a0_1,.int .i64 a0_2,.slice none 0 0,.slice none 0 0,.slice none 0 0,.slice none 0 0,.slice none 0 0]) ?_ 3 _ rfl;(with_reducible repeat (first | refine blk_drewN ?_ _ | refine blk_drew ?_ | refine blk_alloc ?_ _));refine blk_put (cs:=#[.string a0_0,.int .i64 a0_1,.int .i64 0,.slice none 0 0,.slice none 0 0,.slice none 0 0,.slice none 0 0,.slice none 0 0]) ?_ 2 _ rfl;(with_reducible repeat (first | refine blk_drewN ?_ _ | refine blk_drew ?_ | refine blk_alloc ?_ _));refine blk_put (cs:=#[.string a0_0,.int .i64 0,.int .i64 0,.slice none 0 0,.slice none 0 0,.slice none 0 0,.slice none 0 0,.slice none 0 0]) ?_ 1 _ rfl;(with_reducible repeat (first | refine blk_drewN ?_ _ | refine blk_drew ?_ | refine blk_alloc ?_ _));refine blk_put (cs:=#[.string (⟨#[]⟩ : ByteArray),.int .i64 0,.int .i64 0,.slice none 0 0,.slice none 0 0,.slice none 0 0,.slice none 0 0,.slice none 0 0]) ?_ 0 _ rfl;(with_reducible repeat (first | refine blk_drewN ?_ _ | refine blk_drew ?_ | refine blk_alloc ?_ _));refine blk_far ?_ NB166_165.out _;(with_reducible repeat (first | refine blk_drewN ?_ _ | refine blk_drew ?_ | refine blk_alloc ?_ _));refine blk_far ?_ NB166_165.out _;(with_reducible repeat (first | refine blk_drewN ?_ _ | refine blk_drew ?_ | refine blk_alloc ?_ _));exact BK166.out) Tryz.underlying42 rfl (by kernel_rfl)) rfl ?_
 exact ⟨_,_,_,_,_,by first | rfl | (simp [errW_none,errW_some] <;> rfl) | (simp [*,errW_none,errW_some] <;> rfl) | (exfalso;contradiction),by (with_reducible repeat (first | apply Kd.R_alloc | apply Kd.R_drewN | apply Kd.R_drew));exact Kd.R_mono (Kd.R_far (p:=⟨gb166,7,none⟩) (Kd.R_far (p:=⟨gb166,6,none⟩) (Kd.R_far (p:=⟨gb166,5,none⟩) (Kd.R_far (p:=⟨gb166,4,none⟩) (Kd.R_far (p:=⟨gb166,3,none⟩) (Kd.R_far (p:=⟨gb166,2,none⟩) (Kd.R_far (p:=⟨gb166,1,none⟩) (Kd.R_far (p:=⟨gb166,0,none⟩) (Kd.R_far (p:=⟨gb165,7,none⟩) (Kd.R_far (p:=⟨gb165,6,none⟩) (Kd.R_types (Kd.R_types HO169.out BK165.out (by decide)) BK166.out (by decide)) (fun _ hk=>hk.1.2) (.slice Ao23 t176.length co23)) (fun _ hk=>hk.1.2) (.slice Ao25 t179.length co25)) (fun _ hk=>hk.2) (.string a0_0)) (fun _ hk=>hk.2) (.int .i64 a0_1)) (fun _ hk=>hk.2) (.int .i64 a0_2)) (fun _ hk=>hk.2) (.slice Ao13 t167.length co13)) (fun _ hk=>hk.2) (.slice Ao15 t170.length co15)) (fun _ hk=>hk.2) (.slice Ao17 t173.length co17)) (fun _ hk=>hk.2) (.slice Ao23 t176.length co23)) (fun _ hk=>hk.2) (.slice Ao25 t179.length co25)) (fun _ hk=>⟨hk.1.1.1,hk.1.1.2⟩),by (with_reducible repeat (first | apply Kd.R_alloc | apply Kd.R_drewN | apply Kd.R_drew));exact Kd.R_mono (Kd.R_far (p:=⟨gb166,7,none⟩) (Kd.R_far (p:=⟨gb166,6,none⟩) (Kd.R_far (p:=⟨gb166,5,none⟩) (Kd.R_far (p:=⟨gb166,4,none⟩) (Kd.R_far (p:=⟨gb166,3,none⟩) (Kd.R_far (p:=⟨gb166,2,none⟩) (Kd.R_far (p:=⟨gb166,1,none⟩) (Kd.R_far (p:=⟨gb166,0,none⟩) (Kd.R_far (p:=⟨gb165,7,none⟩) (Kd.R_far (p:=⟨gb165,6,none⟩) (Kd.R_types (Kd.R_types HO172.out BK165.out (by decide)) BK166.out (by decide)) (fun _ hk=>hk.1.2) (.slice Ao23 t176.length co23)) (fun _ hk=>hk.1.2) (.slice Ao25 t179.length co25)) (fun _ hk=>hk.2) (.string a0_0)) (fun _ hk=>hk.2) (.int .i64 a0_1)) (fun _ hk=>hk.2) (.int .i64 a0_2)) (fun _ hk=>hk.2) (.slice Ao13 t167.length co13)) (fun _ hk=>hk.2) (.slice Ao15 t170.length co15)) (fun _ hk=>hk.2) (.slice Ao17 t173.length co17)) (fun _ hk=>hk.2) (.slice Ao23 t176.length co23)) (fun _ hk=>hk.2) (.slice Ao25 t179.length co25)) (fun _ hk=>⟨hk.1.1.1,hk.1.1.2⟩),by (with_reducible repeat (first | apply Kd.R_alloc | apply Kd.R_drewN | apply Kd.R_drew));exact Kd.R_mono (Kd.R_far (p:=⟨gb166,7,none⟩) (Kd.R_far (p:=⟨gb166,6,none⟩) (Kd.R_far (p:=⟨gb166,5,none⟩) (Kd.R_far (p:=⟨gb166,4,none⟩) (Kd.R_far (p:=⟨gb166,3,none⟩) (Kd.R_far (p:=⟨gb166,2,none⟩) (Kd.R_far (p:=⟨gb166,1,none⟩) (Kd.R_far (p:=⟨gb166,0,none⟩) (Kd.R_far (p:=⟨gb165,7,none⟩) (Kd.R_far (p:=⟨gb165,6,none⟩) (Kd.R_types (Kd.R_types HO175.out BK165.out (by decide)) BK166.out (by decide)) (fun _ hk=>hk.1.2) (.slice Ao23 t176.length co23)) (fun _ hk=>hk.1.2) (.slice Ao25 t179.length co25)) (fun _ hk=>hk.2) (.string a0_0)) (fun _ hk=>hk.2) (.int .i64 a0_1)) (fun _ hk=>hk.2) (.int .i64 a0_2)) (fun _ hk=>hk.2) (.slice Ao13 t167.length co13)) (fun _ hk=>hk.2) (.slice Ao15 t170.length co15)) (fun _ hk=>hk.2) (.slice Ao17 t173.length co17)) (fun _ hk=>hk.2) (.slice Ao23 t176.length co23)) (fun _ hk=>hk.2) (.slice Ao25 t179.length co25)) (fun _ hk=>⟨hk.1.1.1,hk.1.1.2⟩),by (with_reducible repeat (first | apply Kd.R_alloc | apply Kd.R_drewN | apply Kd.R_drew));exact Kd.R_mono (Kd.R_far (p:=⟨gb166,7,none⟩) (Kd.R_far (p:=⟨gb166,6,none⟩) (Kd.R_far (p:=⟨gb166,5,none⟩) (Kd.R_far (p:=⟨gb166,4,none⟩) (Kd.R_far (p:=⟨gb166,3,none⟩) (Kd.R_far (p:=⟨gb166,2,none⟩) (Kd.R_far (p:=⟨gb166,1,none⟩) (Kd.R_far (p:=⟨gb166,0,none⟩) (Kd.R_far (p:=⟨gb165,7,none⟩) (Kd.R_far (p:=⟨gb165,6,none⟩) (Kd.R_types (Kd.R_types HO178.out BK165.out (by decide)) BK166.out (by decide)) (fun _ hk=>hk.1.2) (.slice Ao23 t176.length co23)) (fun _ hk=>hk.1.2) (.slice Ao25 t179.length co25)) (fun _ hk=>hk.2) (.string a0_0)) (fun _ hk=>hk.2) (.int .i64 a0_1)) (fun _ hk=>hk.2) (.int .i64 a0_2)) (fun _ hk=>hk.2) (.slice Ao13 t167.length co13)) (fun _ hk=>hk.2) (.slice Ao15 t170.length co15)) (fun _ hk=>hk.2) (.slice Ao17 t173.length co17)) (fun _ hk=>hk.2) (.slice Ao23 t176.length co23)) (fun _ hk=>hk.2) (.slice Ao25 t179.length co25)) (fun _ hk=>hk.1.1.2),by (with_reducible repeat (first | apply Kd.R_alloc | apply Kd.R_drewN | apply Kd.R_drew));exact Kd.R_mono (Kd.R_far (p:=⟨gb166,7,none⟩) (Kd.R_far (p:=⟨gb166,6,none⟩) (Kd.R_far (p:=⟨gb166,5,none⟩) (Kd.R_far (p:=⟨gb166,4,none⟩) (Kd.R_far (p:=⟨gb166,3,none⟩) (Kd.R_far (p:=⟨gb166,2,none⟩) (Kd.R_far (p:=⟨gb166,1,none⟩) (Kd.R_far (p:=⟨gb166,0,none⟩) (Kd.R_far (p:=⟨gb165,7,none⟩) (Kd.R_far (p:=⟨gb165,6,none⟩) (Kd.R_types (Kd.R_types HO181.out BK165.out (by decide)) BK166.out (by decide)) (fun _ hk=>hk.1.2) (.slice Ao23 t176.length co23)) (fun _ hk=>hk.1.2) (.slice Ao25 t179.length co25)) (fun _ hk=>hk.2) (.string a0_0)) (fun _ hk=>hk.2) (.int .i64 a0_1)) (fun _ hk=>hk.2) (.int .i64 a0_2)) (fun _ hk=>hk.2) (.slice Ao13 t167.length co13)) (fun _ hk=>hk.2) (.slice Ao15 t170.length co15)) (fun _ hk=>hk.2) (.slice Ao17 t173.length co17)) (fun _ hk=>hk.2) (.slice Ao23 t176.length co23)) (fun _ hk=>hk.2) (.slice Ao25 t179.length co25)) (fun _ hk=>hk.1.1.2),by repeat (first | (with_reducible first | exact HB.out | apply below_alloc | apply pw_below_drewN | apply below_drew1 | refine below_set ?_ GE165.out | refine below_set ?_ GE166.out) | exact HB.out)⟩
def rebusref24_Same.l0 : Nat → List (S35) → List (S35) → Int → Option (Bool)
 | 0,_,_,_=>none
 | k + 1,x0,x1,x5=>if x5 < (x0.length : Int) then (if 0 ≤ x5 then (if x5 < (x1.length : Int) then (if (!(((rd_T35 x0 x5).f0) == ((rd_T35 x1 x5).f0)) || (!(((rd_T35 x0 x5).f1) == ((rd_T35 x1 x5).f1)) || (!((((rd_T35 x0 x5).f2).toList) == (((rd_T35 x1 x5).f2).toList))))) = true then (some false) else (rebusref24_Same.l0 k x0 x1 (wrap64 (x5 + 1)))) else (none)) else (none)) else (some true)
def rebusref24_Same.f (k : Nat) (l0 : List (S35)) (l1 : List (S35)) : Option (Bool):=if (l0.length : Int) = (l1.length : Int) then (rebusref24_Same.l0 k l0 l1 0) else (some false)
set_option maxHeartbeats 8000000 in
set_option maxRecDepth 100000 in
theorem rebusref24_Same.calls (k : Nat) (A0 : Option Addr) (c0 : Nat) (l0 : List (S35)) (A1 : Option Addr) (c1 : Nat) (l1 : List (S35)) (r : Bool) (w : World) (hr0 : Kd.C k35 w A0 l0.length l0) (hc0 : l0.length ≤ c0) (hr1 : Kd.C k35 w A1 l1.length l1) (hc1 : l1.length ≤ c1) (h : rebusref24_Same.f k l0 l1 = some r) :
  Calls Tryz.prog 8 #[.slice A0 l0.length c0,.slice A1 l1.length c1] w fun e w'=>e = .returned (.bool r) ∧ Drawn0 w w':=by
 have hu35:=Tryz.underlying35
 have HR0:=Aside0.mk hr0
 have HC0:=Aside0.mk hc0
 clear hr0 hc0
 have HR1:=Aside0.mk hr1
 have HC1:=Aside0.mk hc1
 clear hr1 hc1
 have H : (if (l0.length : Int) = (l1.length : Int) then (rebusref24_Same.l0 k l0 l1 0) else (some false)) = some r:=h
 clear h
 by_cases c3 : (l0.length : Int) = (l1.length : Int)
 ·rw [if_pos c3] at H
  have c3b0 : ((l0.length : Int) == (l1.length : Int)) = true:=beq_iff_eq.mpr c3
  have c3b1 : ((l0.length : Int) != (l1.length : Int)) = false:=bne_eq_false_iff_eq.mpr c3
  have c3b2 : (l0.length == l1.length) = true:=by first | simpa using c3 | (simp at c3 ⊢;omega)
  clear c3
  have H':=Aside0.mk H
  clear H
  go_enter Tryz.func8,Tryz.ntmps8
  go_wp2
  repeat (go_quiet (fail);try go_wp2)
  go_loopg [5] k (fun kq v5 w'=>∃ (x5_1 : Int),v5 = .int .i64 x5_1 ∧ Aside0 (rebusref24_Same.l0 kq l0 l1 x5_1 = some r) ∧ Aside0 (kq ≤ k) ∧ Drawn0 w w')
  case atStart=>exact ⟨(0),(by first | rfl | (simp;done) | (simp [*];done)),H',⟨Nat.le_refl _⟩,by repeat (first | exact Drawn0.refl _ | apply Drawn0.step)⟩
  case round =>
   clear H'
   try clear c1
   try clear p2
   try clear c3
   try clear c3b0
   try clear c3b1
   try clear c3b2
   obtain ⟨x5_1,rfl,HA,HK1,⟨m1,rfl⟩⟩:=hrel
   cases gk with
   | zero=>exact absurd HA.out (by simp [rebusref24_Same.l0])
   | succ k1 =>
    have H:=HA.out
    clear HA
    simp only [rebusref24_Same.l0] at H
    by_cases c4 : x5_1 < (l0.length : Int)
    ·rw [if_pos c4] at H
     have c4b0 : decide (x5_1 < (l0.length : Int)) = true:=decide_eq_true c4
     clear c4
     by_cases c5 : 0 ≤ x5_1
     ·rw [if_pos c5] at H
      have c5b0 : decide (0 ≤ x5_1) = true:=decide_eq_true c5
      clear c5
      by_cases c6 : x5_1 < (l1.length : Int)
      ·rw [if_pos c6] at H
       have c6b0 : decide (x5_1 < (l1.length : Int)) = true:=decide_eq_true c6
       clear c6
       by_cases c7 : (!(((rd_T35 l0 x5_1).f0) == ((rd_T35 l1 x5_1).f0)) || (!(((rd_T35 l0 x5_1).f1) == ((rd_T35 l1 x5_1).f1)) || (!((((rd_T35 l0 x5_1).f2).toList) == (((rd_T35 l1 x5_1).f2).toList))))) = true
       ·rw [if_pos c7] at H
        have c7b0 : (!(((rd_T35 l0 x5_1).f0) == ((rd_T35 l1 x5_1).f0)) || (!(((rd_T35 l0 x5_1).f1) == ((rd_T35 l1 x5_1).f1)) || (!((((rd_T35 l0 x5_1).f2).toList) == (((rd_T35 l1 x5_1).f2).toList))))) = true:=c7
        clear c7
        obtain rfl:=Option.some.inj H
        have p182 : 0 ≤ (x5_1 : Int):=of_decide_eq_true (by first | (with_reducible assumption) | assumption)
        have q182 : x5_1 < (l0.length : Int):=of_decide_eq_true (by first | (with_reducible assumption) | assumption)
        obtain ⟨ad182,e182,hx182_0,hx182_1,hx182_2⟩:=at_T35 HR0.out x5_1 p182 q182
        cases e182
        replace p182:=eq_true p182
        replace q182:=eq_true q182
        have p183 : 0 ≤ (x5_1 : Int):=of_decide_eq_true (by first | (with_reducible assumption) | assumption)
        have q183 : x5_1 < (l1.length : Int):=of_decide_eq_true (by first | (with_reducible assumption) | assumption)
        obtain ⟨ad183,e183,hx183_0,hx183_1,hx183_2⟩:=at_T35 HR1.out x5_1 p183 q183
        cases e183
        replace p183:=eq_true p183
        replace q183:=eq_true q183
        go_wp2
        repeat (go_quiet (fail);try go_wp2)
        go_ret
        exact ⟨by first | rfl | (simp;done) | (simp [*];done),by repeat (first | exact Drawn0.refl _ | apply Drawn0.step)⟩
       ·rw [if_neg c7] at H
        have c7b0 : (!(((rd_T35 l0 x5_1).f0) == ((rd_T35 l1 x5_1).f0)) || (!(((rd_T35 l0 x5_1).f1) == ((rd_T35 l1 x5_1).f1)) || (!((((rd_T35 l0 x5_1).f2).toList) == (((rd_T35 l1 x5_1).f2).toList))))) = false:=by simpa using c7
        clear c7
        have H':=Aside0.mk H
        clear H
        have p182 : 0 ≤ (x5_1 : Int):=of_decide_eq_true (by first | (with_reducible assumption) | assumption)
        have q182 : x5_1 < (l0.length : Int):=of_decide_eq_true (by first | (with_reducible assumption) | assumption)
        obtain ⟨ad182,e182,hx182_0,hx182_1,hx182_2⟩:=at_T35 HR0.out x5_1 p182 q182
        cases e182
        replace p182:=eq_true p182
        replace q182:=eq_true q182
        have p183 : 0 ≤ (x5_1 : Int):=of_decide_eq_true (by first | (with_reducible assumption) | assumption)
        have q183 : x5_1 < (l1.length : Int):=of_decide_eq_true (by first | (with_reducible assumption) | assumption)
        obtain ⟨ad183,e183,hx183_0,hx183_1,hx183_2⟩:=at_T35 HR1.out x5_1 p183 q183
        cases e183
        replace p183:=eq_true p183
        replace q183:=eq_true q183
        go_wp2
        repeat (go_quiet (fail);try go_wp2)
        go_roundg k1
        case measure=>have:=HK1.out;omega
        case rel=>exact ⟨(wrap64 (x5_1 + 1)),(by first | rfl | (simp;done) | (simp [*];done)),H',⟨by have:=HK1.out;omega⟩,by repeat (first | exact Drawn0.refl _ | apply Drawn0.step)⟩
      ·rw [if_neg c6] at H
       exact absurd H (by simp)
     ·rw [if_neg c5] at H
      exact absurd H (by simp)
    ·rw [if_neg c4] at H
     have c4b0 : decide (x5_1 < (l0.length : Int)) = false:=decide_eq_false c4
     clear c4
     obtain rfl:=Option.some.inj H
     go_wp2
     repeat (go_quiet (fail);try go_wp2)
     go_ret
     exact ⟨by first | rfl | (simp;done) | (simp [*];done),by repeat (first | exact Drawn0.refl _ | apply Drawn0.step)⟩
 ·rw [if_neg c3] at H
  have c3b0 : ((l0.length : Int) == (l1.length : Int)) = false:=beq_eq_false_iff_ne.mpr c3
  have c3b1 : ((l0.length : Int) != (l1.length : Int)) = true:=bne_iff_ne.mpr c3
  have c3b2 : (l0.length == l1.length) = false:=by first | simpa using c3 | (simp at c3 ⊢;omega)
  obtain rfl:=Option.some.inj H
  go_enter Tryz.func8,Tryz.ntmps8
  go_wp2
  repeat (go_quiet (fail);try go_wp2)
  go_ret
  exact ⟨by first | rfl | (simp;done) | (simp [*];done),by repeat (first | exact Drawn0.refl _ | apply Drawn0.step)⟩
def session_plain.f (a0 : Int) : Option (ByteArray):=if a0 = 2 then (some (⟨#[119,105,112,101]⟩ : ByteArray)) else (if a0 = 4 then (some (⟨#[115,119,97,112]⟩ : ByteArray)) else (if a0 = 5 then (some (⟨#[112,101,110,99,105,108]⟩ : ByteArray)) else (if a0 = 6 then (some (⟨#[114,101,118,101,97,108]⟩ : ByteArray)) else (if a0 = 7 then (some (⟨#[99,108,101,97,114]⟩ : ByteArray)) else (some (⟨#[]⟩ : ByteArray))))))
set_option maxHeartbeats 8000000 in
set_option maxRecDepth 100000 in
theorem session_plain.calls (a0 : Int) (r : ByteArray) (w : World) (h : session_plain.f a0 = some r) :
  Calls Tryz.prog 42 #[.int .i64 a0] w fun e w'=>e = .returned (.string r) ∧ Drawn0 w w':=by
 have H : (if a0 = 2 then (some (⟨#[119,105,112,101]⟩ : ByteArray)) else (if a0 = 4 then (some (⟨#[115,119,97,112]⟩ : ByteArray)) else (if a0 = 5 then (some (⟨#[112,101,110,99,105,108]⟩ : ByteArray)) else (if a0 = 6 then (some (⟨#[114,101,118,101,97,108]⟩ : ByteArray)) else (if a0 = 7 then (some (⟨#[99,108,101,97,114]⟩ : ByteArray)) else (some (⟨#[]⟩ : ByteArray))))))) = some r:=h
 clear h
 by_cases c2 : a0 = 2
 ·rw [if_pos c2] at H
  have c2b0 : (a0 == 2) = true:=beq_iff_eq.mpr c2
  have c2b1 : (a0 != 2) = false:=bne_eq_false_iff_eq.mpr c2
  clear c2
  obtain rfl:=Option.some.inj H
  go_enter Tryz.func42,Tryz.ntmps42
  go_wp2
  go_ret
  exact ⟨by first | rfl | (simp;done) | (simp [*];done),by repeat (first | exact Drawn0.refl _ | apply Drawn0.step)⟩
 ·rw [if_neg c2] at H
  have c2b0 : (a0 == 2) = false:=beq_eq_false_iff_ne.mpr c2
  have c2b1 : (a0 != 2) = true:=bne_iff_ne.mpr c2
  by_cases c3 : a0 = 4
  ·rw [if_pos c3] at H
   have c3b0 : (a0 == 4) = true:=beq_iff_eq.mpr c3
   have c3b1 : (a0 != 4) = false:=bne_eq_false_iff_eq.mpr c3
   clear c3
   obtain rfl:=Option.some.inj H
   go_enter Tryz.func42,Tryz.ntmps42
   go_wp2
   go_ret
   exact ⟨by first | rfl | (simp;done) | (simp [*];done),by repeat (first | exact Drawn0.refl _ | apply Drawn0.step)⟩
  ·rw [if_neg c3] at H
   have c3b0 : (a0 == 4) = false:=beq_eq_false_iff_ne.mpr c3
   have c3b1 : (a0 != 4) = true:=bne_iff_ne.mpr c3
   by_cases c4 : a0 = 5
   ·rw [if_pos c4] at H
    have c4b0 : (a0 == 5) = true:=beq_iff_eq.mpr c4
    have c4b1 : (a0 != 5) = false:=bne_eq_false_iff_eq.mpr c4
    clear c4
    obtain rfl:=Option.some.inj H
    go_enter Tryz.func42,Tryz.ntmps42
    go_wp2
    go_ret
    exact ⟨by first | rfl | (simp;done) | (simp [*];done),by repeat (first | exact Drawn0.refl _ | apply Drawn0.step)⟩
   ·rw [if_neg c4] at H
    have c4b0 : (a0 == 5) = false:=beq_eq_false_iff_ne.mpr c4
    have c4b1 : (a0 != 5) = true:=bne_iff_ne.mpr c4
    by_cases c5 : a0 = 6
    ·rw [if_pos c5] at H
     have c5b0 : (a0 == 6) = true:=beq_iff_eq.mpr c5
     have c5b1 : (a0 != 6) = false:=bne_eq_false_iff_eq.mpr c5
     clear c5
     obtain rfl:=Option.some.inj H
     go_enter Tryz.func42,Tryz.ntmps42
     go_wp2
     go_ret
     exact ⟨by first | rfl | (simp;done) | (simp [*];done),by repeat (first | exact Drawn0.refl _ | apply Drawn0.step)⟩
    ·rw [if_neg c5] at H
     have c5b0 : (a0 == 6) = false:=beq_eq_false_iff_ne.mpr c5
     have c5b1 : (a0 != 6) = true:=bne_iff_ne.mpr c5
     by_cases c6 : a0 = 7
     ·rw [if_pos c6] at H
      have c6b0 : (a0 == 7) = true:=beq_iff_eq.mpr c6
      have c6b1 : (a0 != 7) = false:=bne_eq_false_iff_eq.mpr c6
      clear c6
      obtain rfl:=Option.some.inj H
      go_enter Tryz.func42,Tryz.ntmps42
      go_wp2
      go_ret
      exact ⟨by first | rfl | (simp;done) | (simp [*];done),by repeat (first | exact Drawn0.refl _ | apply Drawn0.step)⟩
     ·rw [if_neg c6] at H
      have c6b0 : (a0 == 7) = false:=beq_eq_false_iff_ne.mpr c6
      have c6b1 : (a0 != 7) = true:=bne_iff_ne.mpr c6
      obtain rfl:=Option.some.inj H
      go_enter Tryz.func42,Tryz.ntmps42
      go_wp2
      go_ret
      exact ⟨by first | rfl | (simp;done) | (simp [*];done),by repeat (first | exact Drawn0.refl _ | apply Drawn0.step)⟩
end Go.Proofs.YtjopbfidjapmbaaGreatDoor.Q
