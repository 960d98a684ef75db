/- PART 18 OF A PROOF: Lean functions, and that the program computes them; written by hand and by a program. Not trusted: Lean checks it. -/
import Derived.Test.YtjopbfidjapmbaaGreatDoorTa3
import Derived.Test.YtjopbfidjapmbaaGreatDoorTa9
import Derived.Test.YtjopbfidjapmbaaGreatDoorTa12
set_option linter.unusedVariables false
set_option linter.unusedSimpArgs false
namespace Go.Proofs.YtjopbfidjapmbaaGreatDoor.Q
open Go.RowKit Go.Proofs.YtjopbfidjapmbaaGreatDoorW.PrintWords Go.Proofs.YtjopbfidjapmbaaGreatDoorW.PrintLast Go.Proofs.YtjopbfidjapmbaaGreatDoorW.PrintMore
attribute [local go_sem] max2_int min2_int max_two min_two max_three min_three max_four min_four
set_option linter.unusedVariables false
set_option linter.unusedSimpArgs false
def rebusref24_names.f  : Option (List ByteArray):=some (([(⟨#[]⟩ : ByteArray),(⟨#[116,121,112,101]⟩ : ByteArray),(⟨#[119,105,112,101]⟩ : ByteArray),(⟨#[109,111,118,101]⟩ : ByteArray),(⟨#[115,119,97,112]⟩ : ByteArray),(⟨#[112,101,110,99,105,108]⟩ : ByteArray),(⟨#[114,101,118,101,97,108]⟩ : ByteArray),(⟨#[99,108,101,97,114]⟩ : ByteArray)] : List ByteArray))
set_option maxHeartbeats 8000000 in
set_option maxRecDepth 100000 in
theorem rebusref24_names.calls  (r : List ByteArray) (w : World) (h : rebusref24_names.f  = some r) :
  Calls Tryz.prog 44 #[] w fun e w'=>∃ v0_ : Value,e = .returned (v0_) ∧ Kd.R Kd.string 9 w' w.heap.size (fun _=>True) v0_ r ∧ Below w.heap.size w w':=by
 have HB:=Aside0.mk (Below.refl w.heap.size w)
 have H : (some (([(⟨#[]⟩ : ByteArray),(⟨#[116,121,112,101]⟩ : ByteArray),(⟨#[119,105,112,101]⟩ : ByteArray),(⟨#[109,111,118,101]⟩ : ByteArray),(⟨#[115,119,97,112]⟩ : ByteArray),(⟨#[112,101,110,99,105,108]⟩ : ByteArray),(⟨#[114,101,118,101,97,108]⟩ : ByteArray),(⟨#[99,108,101,97,114]⟩ : ByteArray)] : List ByteArray))) = some r:=h
 clear h
 obtain ⟨y184,hy184⟩ : ∃ y_ : List ByteArray,y_ = (([(⟨#[]⟩ : ByteArray),(⟨#[116,121,112,101]⟩ : ByteArray),(⟨#[119,105,112,101]⟩ : ByteArray),(⟨#[109,111,118,101]⟩ : ByteArray),(⟨#[115,119,97,112]⟩ : ByteArray),(⟨#[112,101,110,99,105,108]⟩ : ByteArray),(⟨#[114,101,118,101,97,108]⟩ : ByteArray),(⟨#[99,108,101,97,114]⟩ : ByteArray)] : List ByteArray)):=⟨_,rfl⟩
 replace H : (some y184) = some r:=by first | (rw [hy184];with_reducible exact H) | (have H2_:=(Option.bind_some _ _).symm.trans H;rw [hy184];with_reducible exact H2_) | (have H2_:=(Option.bind_some _ _).symm.trans H;with_reducible exact H2_) | with_reducible exact H | (rw [hy184];exact H) | exact H
 have Ny184:=Aside0.mk hy184
 clear hy184
 obtain rfl:=Option.some.inj H
 go_enter Tryz.func44,Tryz.ntmps44
 go_wp2_with (first | ((with_reducible refine gate_dst (N:=1) rfl ?_);refine Kd.R_lit Kd.string _ 9 ?hg (N:=1) ?hd (xs:=([(⟨#[]⟩ : ByteArray),(⟨#[116,121,112,101]⟩ : ByteArray),(⟨#[119,105,112,101]⟩ : ByteArray),(⟨#[109,111,118,101]⟩ : ByteArray),(⟨#[115,119,97,112]⟩ : ByteArray),(⟨#[112,101,110,99,105,108]⟩ : ByteArray),(⟨#[114,101,118,101,97,108]⟩ : ByteArray),(⟨#[99,108,101,97,114]⟩ : ByteArray)] : List ByteArray)) (inner:=[.string (⟨#[]⟩ : ByteArray),.string (⟨#[116,121,112,101]⟩ : ByteArray),.string (⟨#[119,105,112,101]⟩ : ByteArray),.string (⟨#[109,111,118,101]⟩ : ByteArray),.string (⟨#[115,119,97,112]⟩ : ByteArray),.string (⟨#[112,101,110,99,105,108]⟩ : ByteArray),.string (⟨#[114,101,118,101,97,108]⟩ : ByteArray),.string (⟨#[99,108,101,97,114]⟩ : ByteArray)]) (ok:=fun _=>True) (okp:=fun _=>True) ?hr ?hp (fun _ hk=>hk) trivial (Below.refl _ _) (Nat.le_refl _) (by simp) ?_;(case hd=>rfl);(case hg=>rfl);(case hr=>first | (go_simp;done) | (go_simp;rfl));(case hp=>exact (Reps.one (show Kd.M Kd.string _ _ _ (⟨#[]⟩ : ByteArray) [.string (⟨#[]⟩ : ByteArray)] from rfl) (Reps.one (show Kd.M Kd.string _ _ _ (⟨#[116,121,112,101]⟩ : ByteArray) [.string (⟨#[116,121,112,101]⟩ : ByteArray)] from rfl) (Reps.one (show Kd.M Kd.string _ _ _ (⟨#[119,105,112,101]⟩ : ByteArray) [.string (⟨#[119,105,112,101]⟩ : ByteArray)] from rfl) (Reps.one (show Kd.M Kd.string _ _ _ (⟨#[109,111,118,101]⟩ : ByteArray) [.string (⟨#[109,111,118,101]⟩ : ByteArray)] from rfl) (Reps.one (show Kd.M Kd.string _ _ _ (⟨#[115,119,97,112]⟩ : ByteArray) [.string (⟨#[115,119,97,112]⟩ : ByteArray)] from rfl) (Reps.one (show Kd.M Kd.string _ _ _ (⟨#[112,101,110,99,105,108]⟩ : ByteArray) [.string (⟨#[112,101,110,99,105,108]⟩ : ByteArray)] from rfl) (Reps.one (show Kd.M Kd.string _ _ _ (⟨#[114,101,118,101,97,108]⟩ : ByteArray) [.string (⟨#[114,101,118,101,97,108]⟩ : ByteArray)] from rfl) (Reps.one (show Kd.M Kd.string _ _ _ (⟨#[99,108,101,97,114]⟩ : ByteArray) [.string (⟨#[99,108,101,97,114]⟩ : ByteArray)] from rfl) (Reps.none _ _))))))))));intro v185 w1 ho2 hb hg_ hnew_;clear hg_ hnew_;(first | rw [← Ny184.out] at ho2 | (simp only [Int.reduceToNat] at ho2;rw [← Ny184.out] at ho2));have n0_:=Aside0.mk (Kd.R_lower ho2 (below_size (by repeat (first | (with_reducible first | exact HB.out | apply below_alloc | apply pw_below_drewN | apply below_drew1) | exact HB.out))));have n1_:=Aside0.mk (below_step (by repeat (first | (with_reducible first | exact HB.out | apply below_alloc | apply pw_below_drewN | apply below_drew1) | exact HB.out)) hb);clear HB;have HO186:=n0_;have HB:=n1_;clear n0_ n1_;clear hb ho2))
 go_ret
 exact ⟨_,by first | rfl | (simp [errW_none,errW_some] <;> rfl) | (simp [*,errW_none,errW_some] <;> rfl) | (exfalso;contradiction),by (with_reducible repeat (first | apply Kd.R_alloc | apply Kd.R_drewN | apply Kd.R_drew));exact HO186.out,by repeat (first | (with_reducible first | exact HB.out | apply below_alloc | apply pw_below_drewN | apply below_drew1) | exact HB.out)⟩
def rebusref07_Decimal.f : Nat → Int → Option (ByteArray)
 | 0,_=>none
 | k + 1,a0=>if a0 < 10 then (some (strOfNums (([(wrap64 (48 + a0)) % 256] : List Int)))) else ((rebusref07_Decimal.f k (wrap64 (Int.tdiv a0 10))).bind fun t190=>((some (([(wrap64 (48 + (Int.tmod a0 10))) % 256] : List Int) : List Int)).bind fun y191=>(if t190.size + (strOfNums y191).size ≤ 9223372036854775807 then (some (t190 ++ (strOfNums y191))) else (none))))
def rebusref07_Decimal.T3 : Bool × List (List Nat × List Nat):=(true,[([],[]),([0],[0]),([1],[1]),([],[]),([3],[3]),([4],[4]),([5],[5]),([6],[6]),([7],[7]),([2,8],[2,8]),([9,2,0,1,2,3,4,5,6,7,8,9],[9])])
def rebusref07_Decimal.B3 : List Nat:=[0,1,3,0,8,24,56,120,248,511,1023]
theorem rebusref07_Decimal.tab3 : rtab .any (opsOf Tryz.f45 3) = rebusref07_Decimal.T3:=by kernel_rfl
theorem rebusref07_Decimal.bits3 : waitsOk rebusref07_Decimal.T3.2 rebusref07_Decimal.B3 = true:=by kernel_rfl
set_option maxHeartbeats 8000000 in
set_option maxRecDepth 100000 in
theorem rebusref07_Decimal.calls (k : Nat) : ∀ (a0 : Int) (r : ByteArray) (w : World) (h : rebusref07_Decimal.f k a0 = some r),
  Calls Tryz.prog 45 #[.int .i64 a0] w fun e w'=>e = .returned (.string r) ∧ Below w.heap.size w w':=by
 induction k using Nat.strongRecOn with
 | _ k ih =>
 intro a0 r w h
 cases k with
 | zero=>exact absurd h (by simp [rebusref07_Decimal.f])
 | succ k =>
 simp only [rebusref07_Decimal.f] at h
 have HB:=Aside0.mk (Below.refl w.heap.size w)
 have H : (if a0 < 10 then (some (strOfNums (([(wrap64 (48 + a0)) % 256] : List Int)))) else ((rebusref07_Decimal.f k (wrap64 (Int.tdiv a0 10))).bind fun t190=>((some (([(wrap64 (48 + (Int.tmod a0 10))) % 256] : List Int) : List Int)).bind fun y191=>(if t190.size + (strOfNums y191).size ≤ 9223372036854775807 then (some (t190 ++ (strOfNums y191))) else (none))))) = some r:=h
 clear h
 by_cases c2 : a0 < 10
 ·rw [if_pos c2] at H
  have c2b0 : decide (a0 < 10) = true:=decide_eq_true c2
  clear c2
  obtain ⟨y187,hy187⟩ : ∃ y_ : List Int,y_ = (([(wrap64 (48 + a0)) % 256] : List Int)):=⟨_,rfl⟩
  replace H : (some (strOfNums y187)) = some r:=by first | (rw [hy187];with_reducible exact H) | (have H2_:=(Option.bind_some _ _).symm.trans H;rw [hy187];with_reducible exact H2_) | (have H2_:=(Option.bind_some _ _).symm.trans H;with_reducible exact H2_) | with_reducible exact H | (rw [hy187];exact H) | exact H
  have Ny187:=Aside0.mk hy187
  clear hy187
  obtain rfl:=Option.some.inj H
  go_enter Tryz.func45,Tryz.ntmps45
  go_wp2_with (first | ((with_reducible refine gate_dst (N:=8) rfl ?_);refine Kd.R_lit (Kd.int .u8) _ 5 ?hg (N:=8) ?hd (xs:=([(wrap64 (48 + a0)) % 256] : List Int)) (inner:=[.int .u8 ((wrap64 (48 + a0)) % 256)]) (ok:=fun _=>True) (okp:=fun _=>True) ?hr ?hp (fun _ hk=>hk) trivial (Below.refl _ _) (Nat.le_refl _) (by simp) ?_;(case hd=>rfl);(case hg=>rfl);(case hr=>first | (go_simp;done) | (go_simp;rfl));(case hp=>exact (Reps.one (show Kd.M (Kd.int .u8) _ _ _ ((wrap64 (48 + a0)) % 256) [.int .u8 ((wrap64 (48 + a0)) % 256)] from rfl) (Reps.none _ _)));intro v188 w3 ho4 hb hg_ hnew_;clear hg_ hnew_;(first | rw [← Ny187.out] at ho4 | (simp only [Int.reduceToNat] at ho4;rw [← Ny187.out] at ho4));have n0_:=Aside0.mk (Kd.R_lower ho4 (below_size (by repeat (first | (with_reducible first | exact HB.out | apply below_alloc | apply pw_below_drewN | apply below_drew1) | exact HB.out))));have n1_:=Aside0.mk (below_step (by repeat (first | (with_reducible first | exact HB.out | apply below_alloc | apply pw_below_drewN | apply below_drew1) | exact HB.out)) hb);clear HB;have HO189:=n0_;have HB:=n1_;clear n0_ n1_;clear hb ho4;have hcv5:=own_string (P:=Tryz.prog) Tryz.underlying62 Tryz.underlying5 Tryz.underlying9 (Kd.own_of_R HO189.out)))
  go_ret
  exact ⟨by first | rfl | (simp [errW_none,errW_some] <;> rfl) | (simp [*,errW_none,errW_some] <;> rfl) | (exfalso;contradiction),by repeat (first | (with_reducible first | exact HB.out | apply below_alloc | apply pw_below_drewN | apply below_drew1) | exact HB.out)⟩
 ·rw [if_neg c2] at H
  have c2b0 : decide (a0 < 10) = false:=decide_eq_false c2
  clear c2
  replace H:=Option.bind_eq_some_iff.mp H
  obtain ⟨t190,A60,H⟩:=H
  replace H : ((some (([(wrap64 (48 + (Int.tmod a0 10))) % 256] : List Int) : List Int)).bind fun y191=>(if t190.size + (strOfNums y191).size ≤ 9223372036854775807 then (some (t190 ++ (strOfNums y191))) else (none))) = some r:=H
  have A6:=Aside0.mk A60
  clear A60
  obtain ⟨y191,hy191⟩ : ∃ y_ : List Int,y_ = (([(wrap64 (48 + (Int.tmod a0 10))) % 256] : List Int)):=⟨_,rfl⟩
  replace H : (if t190.size + (strOfNums y191).size ≤ 9223372036854775807 then (some (t190 ++ (strOfNums y191))) else (none)) = some r:=by first | (rw [hy191];with_reducible exact H) | (have H2_:=(Option.bind_some _ _).symm.trans H;rw [hy191];with_reducible exact H2_) | (have H2_:=(Option.bind_some _ _).symm.trans H;with_reducible exact H2_) | with_reducible exact H | (rw [hy191];exact H) | exact H
  have Ny191:=Aside0.mk hy191
  clear hy191
  by_cases c7 : t190.size + (strOfNums y191).size ≤ 9223372036854775807
  ·rw [if_pos c7] at H
   have c7b0:=eq_true c7
   have c7b1 : decide (t190.size + (strOfNums y191).size ≤ 9223372036854775807) = true:=decide_eq_true c7
   try have c7b2 : (9223372036854775807 < t190.size + (strOfNums y191).size) = False:=eq_false (Nat.not_lt.2 c7)
   obtain rfl:=Option.some.inj H
   go_enter Tryz.func45,Tryz.ntmps45
   try go_wp2
   have n0_:=Aside0.mk (below_drew1 HB.out)
   clear HB
   have HB:=n0_
   clear n0_
   refine start_ (n:=11) (S:=fun w'=>True) (ds:=[]) #[false,false,false,false,false,false,false,false,false,false,false] (by kernel_rfl) rfl rfl trivial (fun hHeld=>?_);refine with_tabW rebusref07_Decimal.tab3 rebusref07_Decimal.bits3 (fun HT_ HW_=>?_)
   generalize w.drew = w8 at HB hHeld ⊢
   refine pure_ (i:=0) (N:=some 10) (v:=?_) (a':=?_) #[true,false,false,false,false,false,false,false,false,false,false] rfl rfl (any_of HT_.out (by kernel_rfl)) (fun _ _ _ h=>h) (Or.inl ⟨by rfl,?_⟩) ?_ ?_
   rotate_left
   ·intro w'
    go_simp
    with_reducible rfl
   rotate_left
   ·simp only [Act.put,List.setIfInBounds_toArray,List.set_cons_zero,List.set_cons_succ,i64_w,i32_w]
    rfl
   refine pure_ (i:=1) (N:=some 11) (v:=?_) (a':=?_) #[true,true,false,false,false,false,false,false,false,false,false] rfl rfl (any_of HT_.out (by kernel_rfl)) (fun _ _ _ h=>h) (Or.inl ⟨by rfl,?_⟩) ?_ ?_
   rotate_left
   ·intro w'
    go_simp
    with_reducible rfl
   rotate_left
   ·simp only [Act.put,List.setIfInBounds_toArray,List.set_cons_zero,List.set_cons_succ,i64_w,i32_w]
    rfl
   refine pure_ (i:=3) (N:=some 13) (v:=?_) (a':=?_) #[true,true,false,true,false,false,false,false,false,false,false] rfl rfl (any_of HT_.out (by kernel_rfl)) (fun _ _ _ h=>h) (Or.inl ⟨by rfl,?_⟩) ?_ ?_
   rotate_left
   ·intro w'
    go_simp
    with_reducible rfl
   rotate_left
   ·simp only [Act.put,List.setIfInBounds_toArray,List.set_cons_zero,List.set_cons_succ,i64_w,i32_w]
    rfl
   refine pure_ (i:=4) (N:=some 14) (v:=?_) (a':=?_) #[true,true,false,true,true,false,false,false,false,false,false] rfl rfl (any_of HT_.out (by kernel_rfl)) (fun _ _ _ h=>h) (Or.inl ⟨by rfl,?_⟩) ?_ ?_
   rotate_left
   ·intro w'
    go_simp
    with_reducible rfl
   rotate_left
   ·simp only [Act.put,List.setIfInBounds_toArray,List.set_cons_zero,List.set_cons_succ,i64_w,i32_w]
    rfl
   refine pure_ (i:=5) (N:=some 15) (v:=?_) (a':=?_) #[true,true,false,true,true,true,false,false,false,false,false] rfl rfl (any_of HT_.out (by kernel_rfl)) (fun _ _ _ h=>h) (Or.inl ⟨by rfl,?_⟩) ?_ ?_
   rotate_left
   ·intro w'
    go_simp
    with_reducible rfl
   rotate_left
   ·simp only [Act.put,List.setIfInBounds_toArray,List.set_cons_zero,List.set_cons_succ,i64_w,i32_w]
    rfl
   refine pure_ (i:=6) (N:=some 16) (v:=?_) (a':=?_) #[true,true,false,true,true,true,true,false,false,false,false] rfl rfl (any_of HT_.out (by kernel_rfl)) (fun _ _ _ h=>h) (Or.inl ⟨by rfl,?_⟩) ?_ ?_
   rotate_left
   ·intro w'
    go_simp
    with_reducible rfl
   rotate_left
   ·simp only [Act.put,List.setIfInBounds_toArray,List.set_cons_zero,List.set_cons_succ,i64_w,i32_w]
    rfl
   refine join_ (σ:=Value) 2 #[true,true,true,true,true,true,true,true,true,false,false] (fun s_=>[(12,.string t190),(17,s_),(18,.string (strOfNums y191))]) (fun s_ w'=>(Kd.R (Kd.int .u8) 5 w' w.heap.size (fun _=>True) s_ y191) ∧ (Below w.heap.size w w')) ?_ ?_
   rotate_left
   ·intro hCont
    refine two_ (i:=2) (j:=7) (Ni:=some 12) (Nj:=some 17) #[true,true,true,true,true,true,true,false,false,false,false] #[true,true,false,true,true,true,true,true,false,false,false] rfl rfl rfl rfl (two_of HT_.out (by kernel_rfl)) (by decide) (by decide) (fun K hK=>?_) (fun K hK=>?_)
    ·skip
     refine goes_ Tryz.func45 (by kernel_rfl) rfl #[.int .i64 (wrap64 (Int.tdiv a0 10))] (by rfl) rfl rfl (by (try simp only [List.map_toArray,List.map_cons,List.map_nil]);first | done | rfl | (simp only [List.length_drop,List.length_take];rfl)) ?_
     with_reducible refine (ih k (by omega) (wrap64 (Int.tdiv a0 10)) t190 _ A6.out).mono ?_
     rintro e w9 ⟨rfl,hb⟩
     refine ⟨_,rfl,?_⟩
     have n0_:=Aside0.mk (below_step (by repeat (first | (with_reducible first | exact HB.out | apply below_alloc | apply pw_below_drewN | apply below_drew1) | exact HB.out)) hb)
     clear HB
     have HB:=n0_
     clear n0_
     (try clear hb)
     (try clear hb2)
     (try clear hk)
     (try clear hi)
     refine hK.out _ _ trivial (fun hHeld=>?_)
     clear hK K
     refine norm_ (a':=?_) ?_ ?_
     rotate_left
     ·show Act.put _ (some 12) _ = _
      simp only [Act.put,List.setIfInBounds_toArray,List.set_cons_zero,List.set_cons_succ,i64_w,i32_w]
      rfl
     refine one_ (i:=7) (N:=some 17) #[true,true,true,true,true,true,true,true,false,false,false] rfl rfl (one_of HT_.out (by kernel_rfl)) (by decide) (fun K hK=>?_)
     refine Kd.R_lit_step (Kd.int .u8) _ 5 ?hg (N:=17) ?hd (xs:=([(wrap64 (48 + (Int.tmod a0 10))) % 256] : List Int)) (inner:=[.int .u8 ((wrap64 (48 + (Int.tmod a0 10))) % 256)]) (ok:=fun _=>True) (okp:=fun _=>True) ?hr ?hp (fun _ hk=>hk) trivial (Below.refl _ _) (Nat.le_refl _) (by simp) ?_;(case hd=>rfl);(case hg=>rfl);(case hr=>first | (go_simp;done) | (go_simp;rfl));(case hp=>exact (Reps.one (show Kd.M (Kd.int .u8) _ _ _ ((wrap64 (48 + (Int.tmod a0 10))) % 256) [.int .u8 ((wrap64 (48 + (Int.tmod a0 10))) % 256)] from rfl) (Reps.none _ _)))
     intro v192 w10 ho11 hb hg_ hnew_
     clear hg_ hnew_
     (first | rw [← Ny191.out] at ho11 | (simp only [Int.reduceToNat] at ho11;rw [← Ny191.out] at ho11))
     have n0_:=Aside0.mk (Kd.R_lower ho11 (below_size (by repeat (first | (with_reducible first | exact HB.out | apply below_alloc | apply pw_below_drewN | apply below_drew1) | exact HB.out))))
     have n1_:=Aside0.mk (below_step (by repeat (first | (with_reducible first | exact HB.out | apply below_alloc | apply pw_below_drewN | apply below_drew1) | exact HB.out)) hb)
     clear HB
     have HO193:=n0_
     have HB:=n1_
     clear n0_ n1_
     clear hb ho11
     refine hK.out _ _ trivial (fun hHeld=>?_)
     clear hK K
     refine norm_ (a':=?_) ?_ ?_
     rotate_left
     ·show Act.put _ (some 17) _ = _
      simp only [Act.put,List.setIfInBounds_toArray,List.set_cons_zero,List.set_cons_succ,i64_w,i32_w]
      rfl
     refine one_ (i:=8) (N:=some 18) #[true,true,true,true,true,true,true,true,true,false,false] rfl rfl (one_of HT_.out (by kernel_rfl)) (by decide) (fun K hK=>?_)
     have hcv12:=own_string (P:=Tryz.prog) Tryz.underlying62 Tryz.underlying5 Tryz.underlying9 (Kd.own_of_R HO193.out)
     refine value_ (w1:=?_) (v:=?_) (by rfl) rfl ?_ ?_
     rotate_left 2
     ·go_simp
      constructor
      ·rfl
      ·rfl
     clear hcv12
     refine hK.out _ _ trivial (fun hHeld=>?_)
     clear hK K
     refine norm_ (a':=?_) ?_ ?_
     rotate_left
     ·show Act.put _ (some 18) _ = _
      simp only [Act.put,List.setIfInBounds_toArray,List.set_cons_zero,List.set_cons_succ,i64_w,i32_w]
      rfl
     exact norm_ (by simp only [putAll,Act.put,List.setIfInBounds_toArray,List.set_cons_zero,List.set_cons_succ]) (hCont (v192) _ ⟨(by (with_reducible repeat (first | apply Kd.R_alloc | apply Kd.R_drewN | apply Kd.R_drew));exact HO193.out),(by repeat (first | (with_reducible first | exact HB.out | apply below_alloc | apply pw_below_drewN | apply below_drew1) | exact HB.out))⟩)
    ·skip
     refine Kd.R_lit_step (Kd.int .u8) _ 5 ?hg (N:=17) ?hd (xs:=([(wrap64 (48 + (Int.tmod a0 10))) % 256] : List Int)) (inner:=[.int .u8 ((wrap64 (48 + (Int.tmod a0 10))) % 256)]) (ok:=fun _=>True) (okp:=fun _=>True) ?hr ?hp (fun _ hk=>hk) trivial (Below.refl _ _) (Nat.le_refl _) (by simp) ?_;(case hd=>rfl);(case hg=>rfl);(case hr=>first | (go_simp;done) | (go_simp;rfl));(case hp=>exact (Reps.one (show Kd.M (Kd.int .u8) _ _ _ ((wrap64 (48 + (Int.tmod a0 10))) % 256) [.int .u8 ((wrap64 (48 + (Int.tmod a0 10))) % 256)] from rfl) (Reps.none _ _)))
     intro v192 w9 ho10 hb hg_ hnew_
     clear hg_ hnew_
     (first | rw [← Ny191.out] at ho10 | (simp only [Int.reduceToNat] at ho10;rw [← Ny191.out] at ho10))
     have n0_:=Aside0.mk (Kd.R_lower ho10 (below_size (by repeat (first | (with_reducible first | exact HB.out | apply below_alloc | apply pw_below_drewN | apply below_drew1) | exact HB.out))))
     have n1_:=Aside0.mk (below_step (by repeat (first | (with_reducible first | exact HB.out | apply below_alloc | apply pw_below_drewN | apply below_drew1) | exact HB.out)) hb)
     clear HB
     have HO193:=n0_
     have HB:=n1_
     clear n0_ n1_
     clear hb ho10
     refine hK.out _ _ trivial (fun hHeld=>?_)
     clear hK K
     refine norm_ (a':=?_) ?_ ?_
     rotate_left
     ·show Act.put _ (some 17) _ = _
      simp only [Act.put,List.setIfInBounds_toArray,List.set_cons_zero,List.set_cons_succ,i64_w,i32_w]
      rfl
     refine two_ (i:=2) (j:=8) (Ni:=some 12) (Nj:=some 18) #[true,true,true,true,true,true,true,true,false,false,false] #[true,true,false,true,true,true,true,true,true,false,false] rfl rfl rfl rfl (two_of HT_.out (by kernel_rfl)) (by decide) (by decide) (fun K hK=>?_) (fun K hK=>?_)
     ·skip
      refine goes_ Tryz.func45 (by kernel_rfl) rfl #[.int .i64 (wrap64 (Int.tdiv a0 10))] (by rfl) rfl rfl (by (try simp only [List.map_toArray,List.map_cons,List.map_nil]);first | done | rfl | (simp only [List.length_drop,List.length_take];rfl)) ?_
      with_reducible refine (ih k (by omega) (wrap64 (Int.tdiv a0 10)) t190 _ A6.out).mono ?_
      rintro e w11 ⟨rfl,hb⟩
      refine ⟨_,rfl,?_⟩
      have n0_:=Aside0.mk (Kd.R_below (by (with_reducible repeat (first | apply Kd.R_alloc | apply Kd.R_drewN | apply Kd.R_drew));exact HO193.out) hb)
      have n1_:=Aside0.mk (below_step (by repeat (first | (with_reducible first | exact HB.out | apply below_alloc | apply pw_below_drewN | apply below_drew1) | exact HB.out)) hb)
      clear HO193
      clear HB
      have HO193:=n0_
      have HB:=n1_
      clear n0_ n1_
      (try clear hb)
      (try clear hb2)
      (try clear hk)
      (try clear hi)
      refine hK.out _ _ trivial (fun hHeld=>?_)
      clear hK K
      refine norm_ (a':=?_) ?_ ?_
      rotate_left
      ·show Act.put _ (some 12) _ = _
       simp only [Act.put,List.setIfInBounds_toArray,List.set_cons_zero,List.set_cons_succ,i64_w,i32_w]
       rfl
      refine one_ (i:=8) (N:=some 18) #[true,true,true,true,true,true,true,true,true,false,false] rfl rfl (one_of HT_.out (by kernel_rfl)) (by decide) (fun K hK=>?_)
      have hcv12:=own_string (P:=Tryz.prog) Tryz.underlying62 Tryz.underlying5 Tryz.underlying9 (Kd.own_of_R HO193.out)
      refine value_ (w1:=?_) (v:=?_) (by rfl) rfl ?_ ?_
      rotate_left 2
      ·go_simp
       constructor
       ·rfl
       ·rfl
      clear hcv12
      refine hK.out _ _ trivial (fun hHeld=>?_)
      clear hK K
      refine norm_ (a':=?_) ?_ ?_
      rotate_left
      ·show Act.put _ (some 18) _ = _
       simp only [Act.put,List.setIfInBounds_toArray,List.set_cons_zero,List.set_cons_succ,i64_w,i32_w]
       rfl
      exact norm_ (by simp only [putAll,Act.put,List.setIfInBounds_toArray,List.set_cons_zero,List.set_cons_succ]) (hCont (v192) _ ⟨(by (with_reducible repeat (first | apply Kd.R_alloc | apply Kd.R_drewN | apply Kd.R_drew));exact HO193.out),(by repeat (first | (with_reducible first | exact HB.out | apply below_alloc | apply pw_below_drewN | apply below_drew1) | exact HB.out))⟩)
     ·skip
      have hcv11:=own_string (P:=Tryz.prog) Tryz.underlying62 Tryz.underlying5 Tryz.underlying9 (Kd.own_of_R HO193.out)
      refine value_ (w1:=?_) (v:=?_) (by rfl) rfl ?_ ?_
      rotate_left 2
      ·go_simp
       constructor
       ·rfl
       ·rfl
      clear hcv11
      refine hK.out _ _ trivial (fun hHeld=>?_)
      clear hK K
      refine norm_ (a':=?_) ?_ ?_
      rotate_left
      ·show Act.put _ (some 18) _ = _
       simp only [Act.put,List.setIfInBounds_toArray,List.set_cons_zero,List.set_cons_succ,i64_w,i32_w]
       rfl
      refine one_ (i:=2) (N:=some 12) #[true,true,true,true,true,true,true,true,true,false,false] rfl rfl (one_of HT_.out (by kernel_rfl)) (by decide) (fun K hK=>?_)
      refine goes_ Tryz.func45 (by kernel_rfl) rfl #[.int .i64 (wrap64 (Int.tdiv a0 10))] (by rfl) rfl rfl (by (try simp only [List.map_toArray,List.map_cons,List.map_nil]);first | done | rfl | (simp only [List.length_drop,List.length_take];rfl)) ?_
      with_reducible refine (ih k (by omega) (wrap64 (Int.tdiv a0 10)) t190 _ A6.out).mono ?_
      rintro e w12 ⟨rfl,hb⟩
      refine ⟨_,rfl,?_⟩
      have n0_:=Aside0.mk (Kd.R_below (by (with_reducible repeat (first | apply Kd.R_alloc | apply Kd.R_drewN | apply Kd.R_drew));exact HO193.out) hb)
      have n1_:=Aside0.mk (below_step (by repeat (first | (with_reducible first | exact HB.out | apply below_alloc | apply pw_below_drewN | apply below_drew1) | exact HB.out)) hb)
      clear HO193
      clear HB
      have HO193:=n0_
      have HB:=n1_
      clear n0_ n1_
      (try clear hb)
      (try clear hb2)
      (try clear hk)
      (try clear hi)
      refine hK.out _ _ trivial (fun hHeld=>?_)
      clear hK K
      refine norm_ (a':=?_) ?_ ?_
      rotate_left
      ·show Act.put _ (some 12) _ = _
       simp only [Act.put,List.setIfInBounds_toArray,List.set_cons_zero,List.set_cons_succ,i64_w,i32_w]
       rfl
      exact norm_ (by simp only [putAll,Act.put,List.setIfInBounds_toArray,List.set_cons_zero,List.set_cons_succ]) (hCont (v192) _ ⟨(by (with_reducible repeat (first | apply Kd.R_alloc | apply Kd.R_drewN | apply Kd.R_drew));exact HO193.out),(by repeat (first | (with_reducible first | exact HB.out | apply below_alloc | apply pw_below_drewN | apply below_drew1) | exact HB.out))⟩)
   rintro v192 w13 ⟨h0_,h1_⟩
   have n0_ : Aside0 (Kd.R (Kd.int .u8) 5 w13 w.heap.size (fun _=>True) v192 y191):=⟨h0_⟩
   have n1_ : Aside0 (Below w.heap.size w w13):=⟨h1_⟩
   clear HB
   clear h0_ h1_
   have HO193:=n0_
   have HB:=n1_
   clear n0_ n1_
   have hHeld:=trivial
   refine norm_ (a':=?_) ?_ ?_
   rotate_left
   ·simp only [putAll,Act.put,List.setIfInBounds_toArray,List.set_cons_zero,List.set_cons_succ]
    rfl
   refine pure_ (i:=9) (N:=some 19) (v:=?_) (a':=?_) #[true,true,true,true,true,true,true,true,true,true,false] rfl rfl (any_of HT_.out (by kernel_rfl)) (fun _ _ _ h=>h) (Or.inl ⟨by rfl,?_⟩) ?_ ?_
   rotate_left
   ·intro w'
    go_simp
    with_reducible rfl
   rotate_left
   ·simp only [Act.put,List.setIfInBounds_toArray,List.set_cons_zero,List.set_cons_succ,i64_w,i32_w]
    rfl
   refine pure_ (i:=10) (N:=some 2) (v:=?_) (a':=?_) #[true,true,true,true,true,true,true,true,true,true,true] rfl rfl (any_of HT_.out (by kernel_rfl)) (fun _ _ _ h=>h) (Or.inl ⟨by rfl,?_⟩) ?_ ?_
   rotate_left
   ·intro w'
    go_simp
    with_reducible rfl
   rotate_left
   ·simp only [Act.put,List.setIfInBounds_toArray,List.set_cons_zero,List.set_cons_succ,i64_w,i32_w]
    rfl
   refine done_ (done_of HT_.out (by kernel_rfl)) ?_
   try go_wp2
   go_ret
   exact ⟨by first | rfl | (simp [errW_none,errW_some] <;> rfl) | (simp [*,errW_none,errW_some] <;> rfl) | (exfalso;contradiction),by repeat (first | (with_reducible first | exact HB.out | apply below_alloc | apply pw_below_drewN | apply below_drew1) | exact HB.out)⟩
  ·rw [if_neg c7] at H
   exact absurd H (by simp)
mutual
def rebusref24_line.j0 : Nat → Bool → Int → Int → ByteArray → Option (ByteArray × Bool)
 | 0,_,_,_,_=>none
 | k + 1,x38,x195000,x195001,x195002=>if x38 = true then (some ((⟨#[]⟩ : ByteArray),false)) else ((rebusref24_names.f).bind fun t195=>(if x195000 = 1 then (rebusref24_line.l0 k 0 x195000 x195001 x195002) else (if x195000 = 3 then ((rebusref07_Decimal.f k x195001).bind fun t198=>(if 5 + t198.size ≤ 9223372036854775807 then (some ((⟨#[109,111,118,101,32]⟩ : ByteArray) ++ t198,true)) else (none))) else (if 0 ≤ x195000 then (if x195000 < (t195.length : Int) then (some (rdOf ByteArray.empty t195 x195000,true)) else (none)) else (none)))))
def rebusref24_line.l0 : Nat → Int → Int → Int → ByteArray → Option (ByteArray × Bool)
 | 0,_,_,_,_=>none
 | k + 1,x5,x195000,x195001,x195002=>if x5 < (x195002.size : Int) then (if 0 ≤ x5 then (if (bt x195002 x5) = 10 then (some ((⟨#[]⟩ : ByteArray),false)) else (rebusref24_line.l0 k (wrap64 (x5 + 1)) x195000 x195001 x195002)) else (none)) else (if 5 + x195002.size ≤ 9223372036854775807 then (some ((⟨#[116,121,112,101,32]⟩ : ByteArray) ++ x195002,(x195002.toList != ([] : List UInt8)))) else (none))
end
def rebusref24_line.f (k : Nat) (a0_0 : Int) (a0_1 : Int) (a0_2 : ByteArray) : Option (ByteArray × Bool):=if a0_0 < 1 then (rebusref24_line.j0 k true a0_0 a0_1 a0_2) else (if a0_0 > 7 then (rebusref24_line.j0 k true a0_0 a0_1 a0_2) else (if a0_0 = 1 then (if a0_0 = 3 then (rebusref24_line.j0 k (decide (a0_1 < 0)) a0_0 a0_1 a0_2) else (if a0_1 = 0 then (rebusref24_line.j0 k (decide (a0_1 < 0)) a0_0 a0_1 a0_2) else (rebusref24_line.j0 k true a0_0 a0_1 a0_2))) else (if a0_2.toList = ([] : List UInt8) then (if a0_0 = 3 then (rebusref24_line.j0 k (decide (a0_1 < 0)) a0_0 a0_1 a0_2) else (if a0_1 = 0 then (rebusref24_line.j0 k (decide (a0_1 < 0)) a0_0 a0_1 a0_2) else (rebusref24_line.j0 k true a0_0 a0_1 a0_2))) else (rebusref24_line.j0 k true a0_0 a0_1 a0_2))))
set_option maxHeartbeats 8000000 in
set_option maxRecDepth 100000 in
theorem rebusref24_line.calls (k : Nat) (a0_0 : Int) (a0_1 : Int) (a0_2 : ByteArray) (r1 : ByteArray) (r2 : Bool) (w : World) (h : rebusref24_line.f k a0_0 a0_1 a0_2 = some (r1,r2)) :
  Calls Tryz.prog 24 #[.agg #[.int .i64 a0_0,.int .i64 a0_1,.string a0_2]] w fun e w'=>e = .returned (.tuple #[.string r1,.bool r2]) ∧ Below w.heap.size w w':=by
 have hu35:=Tryz.underlying35
 have HB:=Aside0.mk (Below.refl w.heap.size w)
 have H : (if a0_0 < 1 then (rebusref24_line.j0 k true a0_0 a0_1 a0_2) else (if a0_0 > 7 then (rebusref24_line.j0 k true a0_0 a0_1 a0_2) else (if a0_0 = 1 then (if a0_0 = 3 then (rebusref24_line.j0 k (decide (a0_1 < 0)) a0_0 a0_1 a0_2) else (if a0_1 = 0 then (rebusref24_line.j0 k (decide (a0_1 < 0)) a0_0 a0_1 a0_2) else (rebusref24_line.j0 k true a0_0 a0_1 a0_2))) else (if a0_2.toList = ([] : List UInt8) then (if a0_0 = 3 then (rebusref24_line.j0 k (decide (a0_1 < 0)) a0_0 a0_1 a0_2) else (if a0_1 = 0 then (rebusref24_line.j0 k (decide (a0_1 < 0)) a0_0 a0_1 a0_2) else (rebusref24_line.j0 k true a0_0 a0_1 a0_2))) else (rebusref24_line.j0 k true a0_0 a0_1 a0_2))))) = some (r1,r2):=h
 clear h
 have HC2:=Aside0.mk H
 clear H
 go_enter Tryz.func24,Tryz.ntmps24
 go_upto_region 1 with (first | ((with_reducible refine gate_dst (N:=1) rfl ?_);refine box_event ?hg (N:=1) ?hd (cs:=#[.int .i64 a0_0,.int .i64 a0_1,.string a0_2]) (t:=35) ?hr ?_;(case hd=>rfl);(case hg=>rfl);(case hr=>first | (go_simp;done) | (go_simp;rfl));intro gb194 hg w3 hbox hb;have n0_:=Aside0.mk (below_step (by repeat (first | (with_reducible first | exact HB.out | apply below_alloc | apply pw_below_drewN | apply below_drew1) | exact HB.out)) hb);have n1_:=Aside0.mk (hbox);have n2_:=Aside0.mk ((by rw [hg];exact (below_size (by repeat (first | (with_reducible first | exact HB.out | apply below_alloc | apply pw_below_drewN | apply below_drew1) | exact HB.out))) : w.heap.size ≤ gb194));have n3_:=Aside0.mk ((by rw [hg];exact (below_size (by repeat (first | (with_reducible first | exact HB.out | apply below_alloc | apply pw_below_drewN | apply below_drew1) | exact HB.out))) : w.heap.size ≤ gb194));clear HB;have HB:=n0_;have BK194:=n1_;have GW194:=n2_;have GE194:=n3_;clear n0_ n1_ n2_ n3_;clear hb hbox hg))
 repeat (go_quiet (first | ((with_reducible refine gate_dst (N:=1) rfl ?_);refine box_event ?hg (N:=1) ?hd (cs:=#[.int .i64 a0_0,.int .i64 a0_1,.string a0_2]) (t:=35) ?hr ?_;(case hd=>rfl);(case hg=>rfl);(case hr=>first | (go_simp;done) | (go_simp;rfl));intro gb194 hg w3 hbox hb;have n0_:=Aside0.mk (below_step (by repeat (first | (with_reducible first | exact HB.out | apply below_alloc | apply pw_below_drewN | apply below_drew1) | exact HB.out)) hb);have n1_:=Aside0.mk (hbox);have n2_:=Aside0.mk ((by rw [hg];exact (below_size (by repeat (first | (with_reducible first | exact HB.out | apply below_alloc | apply pw_below_drewN | apply below_drew1) | exact HB.out))) : w.heap.size ≤ gb194));have n3_:=Aside0.mk ((by rw [hg];exact (below_size (by repeat (first | (with_reducible first | exact HB.out | apply below_alloc | apply pw_below_drewN | apply below_drew1) | exact HB.out))) : w.heap.size ≤ gb194));clear HB;have HB:=n0_;have BK194:=n1_;have GW194:=n2_;have GE194:=n3_;clear n0_ n1_ n2_ n3_;clear hb hbox hg));go_upto_region 1 with (first | ((with_reducible refine gate_dst (N:=1) rfl ?_);refine box_event ?hg (N:=1) ?hd (cs:=#[.int .i64 a0_0,.int .i64 a0_1,.string a0_2]) (t:=35) ?hr ?_;(case hd=>rfl);(case hg=>rfl);(case hr=>first | (go_simp;done) | (go_simp;rfl));intro gb194 hg w3 hbox hb;have n0_:=Aside0.mk (below_step (by repeat (first | (with_reducible first | exact HB.out | apply below_alloc | apply pw_below_drewN | apply below_drew1) | exact HB.out)) hb);have n1_:=Aside0.mk (hbox);have n2_:=Aside0.mk ((by rw [hg];exact (below_size (by repeat (first | (with_reducible first | exact HB.out | apply below_alloc | apply pw_below_drewN | apply below_drew1) | exact HB.out))) : w.heap.size ≤ gb194));have n3_:=Aside0.mk ((by rw [hg];exact (below_size (by repeat (first | (with_reducible first | exact HB.out | apply below_alloc | apply pw_below_drewN | apply below_drew1) | exact HB.out))) : w.heap.size ≤ gb194));clear HB;have HB:=n0_;have BK194:=n1_;have GW194:=n2_;have GE194:=n3_;clear n0_ n1_ n2_ n3_;clear hb hbox hg)))
 (try simp only [Act.put,List.setIfInBounds_toArray,List.set_cons_zero,List.set_cons_succ])
 go_cut [38] (fun v38 wc=>∃ (kq : Nat) (x38_1 : Bool),v38 = .bool x38_1 ∧ Aside0 (rebusref24_line.j0 kq x38_1 a0_0 a0_1 a0_2 = some (r1,r2)) ∧ Aside0 (kq ≤ k) ∧ Aside0 (wc.heap[gb194]? = some (.cells #[.int .i64 a0_0,.int .i64 a0_1,.string a0_2] 35 (0,0))) ∧ Aside0 (Below w.heap.size w wc))
 case first =>
  have H:=HC2.out
  clear HC2
  by_cases c4 : a0_0 < 1
  ·rw [if_pos c4] at H
   have c4b0 : decide (a0_0 < 1) = true:=decide_eq_true c4
   clear c4
   (first | rw [c4b0] | (simp only [i64_w,i32_w];rw [c4b0]) | skip)
   have H':=Aside0.mk H
   clear H
   have hcz5_0 : w3.cell? ⟨gb194,0,none⟩ = some (.int .i64 a0_0):=(blk_cell BK194.out 0).trans rfl
   have hcz5_1 : w3.cell? ⟨gb194,1,none⟩ = some (.int .i64 a0_1):=(blk_cell BK194.out 1).trans rfl
   have hcz5_2 : w3.cell? ⟨gb194,2,none⟩ = some (.string a0_2):=(blk_cell BK194.out 2).trans rfl
   have hfz5_0:=blk_frozen BK194.out 0
   have hfz5_1:=blk_frozen BK194.out 1
   have hfz5_2:=blk_frozen BK194.out 2
   go_wp2
   repeat (go_quiet (fail);try go_wp2)
   go_meet
   case rel=>exact ⟨_,(true),(by first | rfl | (simp;done) | (simp [*];done)),H',⟨by first | omega | exact Nat.le_refl _⟩,⟨by (with_reducible repeat (first | refine blk_drewN ?_ _ | refine blk_drew ?_ | refine blk_alloc ?_ _));exact BK194.out⟩,⟨by repeat (first | (with_reducible first | exact HB.out | apply below_alloc | apply pw_below_drewN | apply below_drew1 | refine below_set ?_ GE194.out) | exact HB.out)⟩⟩
  ·rw [if_neg c4] at H
   have c4b0 : decide (a0_0 < 1) = false:=decide_eq_false c4
   clear c4
   (first | rw [c4b0] | (simp only [i64_w,i32_w];rw [c4b0]) | skip)
   by_cases c6 : a0_0 > 7
   ·rw [if_pos c6] at H
    have c6b0 : decide (7 < a0_0) = true:=decide_eq_true c6
    clear c6
    have H':=Aside0.mk H
    clear H
    have hcz7_0 : w3.cell? ⟨gb194,0,none⟩ = some (.int .i64 a0_0):=(blk_cell BK194.out 0).trans rfl
    have hcz7_1 : w3.cell? ⟨gb194,1,none⟩ = some (.int .i64 a0_1):=(blk_cell BK194.out 1).trans rfl
    have hcz7_2 : w3.cell? ⟨gb194,2,none⟩ = some (.string a0_2):=(blk_cell BK194.out 2).trans rfl
    have hfz7_0:=blk_frozen BK194.out 0
    have hfz7_1:=blk_frozen BK194.out 1
    have hfz7_2:=blk_frozen BK194.out 2
    go_wp2
    repeat (go_quiet (fail);try go_wp2)
    go_meet
    case rel=>exact ⟨_,(true),(by first | rfl | (simp;done) | (simp [*];done)),H',⟨by first | omega | exact Nat.le_refl _⟩,⟨by (with_reducible repeat (first | refine blk_drewN ?_ _ | refine blk_drew ?_ | refine blk_alloc ?_ _));exact BK194.out⟩,⟨by repeat (first | (with_reducible first | exact HB.out | apply below_alloc | apply pw_below_drewN | apply below_drew1 | refine below_set ?_ GE194.out) | exact HB.out)⟩⟩
   ·rw [if_neg c6] at H
    have c6b0 : decide (7 < a0_0) = false:=decide_eq_false c6
    clear c6
    by_cases c8 : a0_0 = 1
    ·rw [if_pos c8] at H
     have c8b0 : (a0_0 == 1) = true:=beq_iff_eq.mpr c8
     have c8b1 : (a0_0 != 1) = false:=bne_eq_false_iff_eq.mpr c8
     clear c8
     by_cases c9 : a0_0 = 3
     ·rw [if_pos c9] at H
      have c9b0 : (a0_0 == 3) = true:=beq_iff_eq.mpr c9
      have c9b1 : (a0_0 != 3) = false:=bne_eq_false_iff_eq.mpr c9
      clear c9
      have H':=Aside0.mk H
      clear H
      have hcz10_0 : w3.cell? ⟨gb194,0,none⟩ = some (.int .i64 a0_0):=(blk_cell BK194.out 0).trans rfl
      have hcz10_1 : w3.cell? ⟨gb194,1,none⟩ = some (.int .i64 a0_1):=(blk_cell BK194.out 1).trans rfl
      have hcz10_2 : w3.cell? ⟨gb194,2,none⟩ = some (.string a0_2):=(blk_cell BK194.out 2).trans rfl
      have hfz10_0:=blk_frozen BK194.out 0
      have hfz10_1:=blk_frozen BK194.out 1
      have hfz10_2:=blk_frozen BK194.out 2
      go_wp2
      repeat (go_quiet (fail);try go_wp2)
      go_meet
      case rel=>exact ⟨_,(decide (a0_1 < 0)),(by first | rfl | (simp;done) | (simp [*];done)),H',⟨by first | omega | exact Nat.le_refl _⟩,⟨by (with_reducible repeat (first | refine blk_drewN ?_ _ | refine blk_drew ?_ | refine blk_alloc ?_ _));exact BK194.out⟩,⟨by repeat (first | (with_reducible first | exact HB.out | apply below_alloc | apply pw_below_drewN | apply below_drew1 | refine below_set ?_ GE194.out) | exact HB.out)⟩⟩
     ·rw [if_neg c9] at H
      have c9b0 : (a0_0 == 3) = false:=beq_eq_false_iff_ne.mpr c9
      have c9b1 : (a0_0 != 3) = true:=bne_iff_ne.mpr c9
      by_cases c11 : a0_1 = 0
      ·rw [if_pos c11] at H
       have c11b0 : (a0_1 == 0) = true:=beq_iff_eq.mpr c11
       have c11b1 : (a0_1 != 0) = false:=bne_eq_false_iff_eq.mpr c11
       clear c11
       have H':=Aside0.mk H
       clear H
       have hcz12_0 : w3.cell? ⟨gb194,0,none⟩ = some (.int .i64 a0_0):=(blk_cell BK194.out 0).trans rfl
       have hcz12_1 : w3.cell? ⟨gb194,1,none⟩ = some (.int .i64 a0_1):=(blk_cell BK194.out 1).trans rfl
       have hcz12_2 : w3.cell? ⟨gb194,2,none⟩ = some (.string a0_2):=(blk_cell BK194.out 2).trans rfl
       have hfz12_0:=blk_frozen BK194.out 0
       have hfz12_1:=blk_frozen BK194.out 1
       have hfz12_2:=blk_frozen BK194.out 2
       go_wp2
       repeat (go_quiet (fail);try go_wp2)
       go_meet
       case rel=>exact ⟨_,(decide (a0_1 < 0)),(by first | rfl | (simp;done) | (simp [*];done)),H',⟨by first | omega | exact Nat.le_refl _⟩,⟨by (with_reducible repeat (first | refine blk_drewN ?_ _ | refine blk_drew ?_ | refine blk_alloc ?_ _));exact BK194.out⟩,⟨by repeat (first | (with_reducible first | exact HB.out | apply below_alloc | apply pw_below_drewN | apply below_drew1 | refine below_set ?_ GE194.out) | exact HB.out)⟩⟩
      ·rw [if_neg c11] at H
       have c11b0 : (a0_1 == 0) = false:=beq_eq_false_iff_ne.mpr c11
       have c11b1 : (a0_1 != 0) = true:=bne_iff_ne.mpr c11
       have H':=Aside0.mk H
       clear H
       have hcz13_0 : w3.cell? ⟨gb194,0,none⟩ = some (.int .i64 a0_0):=(blk_cell BK194.out 0).trans rfl
       have hcz13_1 : w3.cell? ⟨gb194,1,none⟩ = some (.int .i64 a0_1):=(blk_cell BK194.out 1).trans rfl
       have hcz13_2 : w3.cell? ⟨gb194,2,none⟩ = some (.string a0_2):=(blk_cell BK194.out 2).trans rfl
       have hfz13_0:=blk_frozen BK194.out 0
       have hfz13_1:=blk_frozen BK194.out 1
       have hfz13_2:=blk_frozen BK194.out 2
       go_wp2
       repeat (go_quiet (fail);try go_wp2)
       go_meet
       case rel=>exact ⟨_,(true),(by first | rfl | (simp;done) | (simp [*];done)),H',⟨by first | omega | exact Nat.le_refl _⟩,⟨by (with_reducible repeat (first | refine blk_drewN ?_ _ | refine blk_drew ?_ | refine blk_alloc ?_ _));exact BK194.out⟩,⟨by repeat (first | (with_reducible first | exact HB.out | apply below_alloc | apply pw_below_drewN | apply below_drew1 | refine below_set ?_ GE194.out) | exact HB.out)⟩⟩
    ·rw [if_neg c8] at H
     have c8b0 : (a0_0 == 1) = false:=beq_eq_false_iff_ne.mpr c8
     have c8b1 : (a0_0 != 1) = true:=bne_iff_ne.mpr c8
     by_cases c14 : a0_2.toList = ([] : List UInt8)
     ·rw [if_pos c14] at H
      have c14b0 : (a0_2.toList == ([] : List UInt8)) = true:=beq_iff_eq.mpr c14
      have c14b1 : (a0_2.toList != ([] : List UInt8)) = false:=bne_eq_false_iff_eq.mpr c14
      clear c14
      by_cases c15 : a0_0 = 3
      ·rw [if_pos c15] at H
       have c15b0 : (a0_0 == 3) = true:=beq_iff_eq.mpr c15
       have c15b1 : (a0_0 != 3) = false:=bne_eq_false_iff_eq.mpr c15
       clear c15
       have H':=Aside0.mk H
       clear H
       have hcz16_0 : w3.cell? ⟨gb194,0,none⟩ = some (.int .i64 a0_0):=(blk_cell BK194.out 0).trans rfl
       have hcz16_1 : w3.cell? ⟨gb194,1,none⟩ = some (.int .i64 a0_1):=(blk_cell BK194.out 1).trans rfl
       have hcz16_2 : w3.cell? ⟨gb194,2,none⟩ = some (.string a0_2):=(blk_cell BK194.out 2).trans rfl
       have hfz16_0:=blk_frozen BK194.out 0
       have hfz16_1:=blk_frozen BK194.out 1
       have hfz16_2:=blk_frozen BK194.out 2
       go_wp2
       repeat (go_quiet (fail);try go_wp2)
       go_meet
       case rel=>exact ⟨_,(decide (a0_1 < 0)),(by first | rfl | (simp;done) | (simp [*];done)),H',⟨by first | omega | exact Nat.le_refl _⟩,⟨by (with_reducible repeat (first | refine blk_drewN ?_ _ | refine blk_drew ?_ | refine blk_alloc ?_ _));exact BK194.out⟩,⟨by repeat (first | (with_reducible first | exact HB.out | apply below_alloc | apply pw_below_drewN | apply below_drew1 | refine below_set ?_ GE194.out) | exact HB.out)⟩⟩
      ·rw [if_neg c15] at H
       have c15b0 : (a0_0 == 3) = false:=beq_eq_false_iff_ne.mpr c15
       have c15b1 : (a0_0 != 3) = true:=bne_iff_ne.mpr c15
       by_cases c17 : a0_1 = 0
       ·rw [if_pos c17] at H
        have c17b0 : (a0_1 == 0) = true:=beq_iff_eq.mpr c17
        have c17b1 : (a0_1 != 0) = false:=bne_eq_false_iff_eq.mpr c17
        clear c17
        have H':=Aside0.mk H
        clear H
        have hcz18_0 : w3.cell? ⟨gb194,0,none⟩ = some (.int .i64 a0_0):=(blk_cell BK194.out 0).trans rfl
        have hcz18_1 : w3.cell? ⟨gb194,1,none⟩ = some (.int .i64 a0_1):=(blk_cell BK194.out 1).trans rfl
        have hcz18_2 : w3.cell? ⟨gb194,2,none⟩ = some (.string a0_2):=(blk_cell BK194.out 2).trans rfl
        have hfz18_0:=blk_frozen BK194.out 0
        have hfz18_1:=blk_frozen BK194.out 1
        have hfz18_2:=blk_frozen BK194.out 2
        go_wp2
        repeat (go_quiet (fail);try go_wp2)
        go_meet
        case rel=>exact ⟨_,(decide (a0_1 < 0)),(by first | rfl | (simp;done) | (simp [*];done)),H',⟨by first | omega | exact Nat.le_refl _⟩,⟨by (with_reducible repeat (first | refine blk_drewN ?_ _ | refine blk_drew ?_ | refine blk_alloc ?_ _));exact BK194.out⟩,⟨by repeat (first | (with_reducible first | exact HB.out | apply below_alloc | apply pw_below_drewN | apply below_drew1 | refine below_set ?_ GE194.out) | exact HB.out)⟩⟩
       ·rw [if_neg c17] at H
        have c17b0 : (a0_1 == 0) = false:=beq_eq_false_iff_ne.mpr c17
        have c17b1 : (a0_1 != 0) = true:=bne_iff_ne.mpr c17
        have H':=Aside0.mk H
        clear H
        have hcz19_0 : w3.cell? ⟨gb194,0,none⟩ = some (.int .i64 a0_0):=(blk_cell BK194.out 0).trans rfl
        have hcz19_1 : w3.cell? ⟨gb194,1,none⟩ = some (.int .i64 a0_1):=(blk_cell BK194.out 1).trans rfl
        have hcz19_2 : w3.cell? ⟨gb194,2,none⟩ = some (.string a0_2):=(blk_cell BK194.out 2).trans rfl
        have hfz19_0:=blk_frozen BK194.out 0
        have hfz19_1:=blk_frozen BK194.out 1
        have hfz19_2:=blk_frozen BK194.out 2
        go_wp2
        repeat (go_quiet (fail);try go_wp2)
        go_meet
        case rel=>exact ⟨_,(true),(by first | rfl | (simp;done) | (simp [*];done)),H',⟨by first | omega | exact Nat.le_refl _⟩,⟨by (with_reducible repeat (first | refine blk_drewN ?_ _ | refine blk_drew ?_ | refine blk_alloc ?_ _));exact BK194.out⟩,⟨by repeat (first | (with_reducible first | exact HB.out | apply below_alloc | apply pw_below_drewN | apply below_drew1 | refine below_set ?_ GE194.out) | exact HB.out)⟩⟩
     ·rw [if_neg c14] at H
      have c14b0 : (a0_2.toList == ([] : List UInt8)) = false:=beq_eq_false_iff_ne.mpr c14
      have c14b1 : (a0_2.toList != ([] : List UInt8)) = true:=bne_iff_ne.mpr c14
      have H':=Aside0.mk H
      clear H
      have hcz20_0 : w3.cell? ⟨gb194,0,none⟩ = some (.int .i64 a0_0):=(blk_cell BK194.out 0).trans rfl
      have hcz20_1 : w3.cell? ⟨gb194,1,none⟩ = some (.int .i64 a0_1):=(blk_cell BK194.out 1).trans rfl
      have hcz20_2 : w3.cell? ⟨gb194,2,none⟩ = some (.string a0_2):=(blk_cell BK194.out 2).trans rfl
      have hfz20_0:=blk_frozen BK194.out 0
      have hfz20_1:=blk_frozen BK194.out 1
      have hfz20_2:=blk_frozen BK194.out 2
      go_wp2
      repeat (go_quiet (fail);try go_wp2)
      go_meet
      case rel=>exact ⟨_,(true),(by first | rfl | (simp;done) | (simp [*];done)),H',⟨by first | omega | exact Nat.le_refl _⟩,⟨by (with_reducible repeat (first | refine blk_drewN ?_ _ | refine blk_drew ?_ | refine blk_alloc ?_ _));exact BK194.out⟩,⟨by repeat (first | (with_reducible first | exact HB.out | apply below_alloc | apply pw_below_drewN | apply below_drew1 | refine below_set ?_ GE194.out) | exact HB.out)⟩⟩
 case rest =>
  clear HC2
  try clear c1
  try clear c2
  try clear p2
  try clear c4
  try clear c4b0
  try clear c6
  try clear c6b0
  try clear c8
  try clear c8b0
  try clear c8b1
  try clear c9
  try clear c9b0
  try clear c9b1
  try clear c11
  try clear c11b0
  try clear c11b1
  try clear c14
  try clear c14b0
  try clear c14b1
  try clear c15
  try clear c15b0
  try clear c15b1
  try clear c17
  try clear c17b0
  try clear c17b1
  try clear hcz10_0
  try clear hcz10_1
  try clear hcz10_2
  try clear hcz12_0
  try clear hcz12_1
  try clear hcz12_2
  try clear hcz13_0
  try clear hcz13_1
  try clear hcz13_2
  try clear hcz16_0
  try clear hcz16_1
  try clear hcz16_2
  try clear hcz18_0
  try clear hcz18_1
  try clear hcz18_2
  try clear hcz19_0
  try clear hcz19_1
  try clear hcz19_2
  try clear hcz20_0
  try clear hcz20_1
  try clear hcz20_2
  try clear hcz5_0
  try clear hcz5_1
  try clear hcz5_2
  try clear hcz7_0
  try clear hcz7_1
  try clear hcz7_2
  try clear hfz10_0
  try clear hfz10_1
  try clear hfz10_2
  try clear hfz12_0
  try clear hfz12_1
  try clear hfz12_2
  try clear hfz13_0
  try clear hfz13_1
  try clear hfz13_2
  try clear hfz16_0
  try clear hfz16_1
  try clear hfz16_2
  try clear hfz18_0
  try clear hfz18_1
  try clear hfz18_2
  try clear hfz19_0
  try clear hfz19_1
  try clear hfz19_2
  try clear hfz20_0
  try clear hfz20_1
  try clear hfz20_2
  try clear hfz5_0
  try clear hfz5_1
  try clear hfz5_2
  try clear hfz7_0
  try clear hfz7_1
  try clear hfz7_2
  obtain ⟨kq,x38_1,rfl,HA,HJ1,BK194,HB⟩:=hcut
  cases kq with
  | zero=>exact absurd HA.out (by simp [rebusref24_line.j0])
  | succ kj1 =>
   have H:=HA.out
   clear HA
   simp only [rebusref24_line.j0] at H
   by_cases c21 : x38_1 = true
   ·subst c21
    have H1 : (some ((⟨#[]⟩ : ByteArray),false)) = some (r1,r2):=by rw [if_pos rfl] at H;exact H
    clear H
    have H:=H1
    clear H1
    simp only [Option.some.injEq,Prod.mk.injEq] at H
    obtain ⟨rfl,rfl⟩:=H
    go_wp2
    repeat (go_quiet (fail);try go_wp2)
    go_ret2
    exact ⟨by first | rfl | (rw [show (a0_2.toList != ([] : List UInt8)) = !a0_2.toList.isEmpty by cases a0_2.toList <;> rfl];rfl) | (simp [errW_none,errW_some] <;> rfl) | (simp [*,errW_none,errW_some] <;> rfl) | (exfalso;contradiction),by repeat (first | (with_reducible first | exact HB.out | apply below_alloc | apply pw_below_drewN | apply below_drew1 | refine below_set ?_ GE194.out) | exact HB.out)⟩
   ·replace c21:=Bool.eq_false_iff.mpr c21
    subst c21
    have H1 : ((rebusref24_names.f).bind fun t195=>(if a0_0 = 1 then (rebusref24_line.l0 kj1 0 a0_0 a0_1 a0_2) else (if a0_0 = 3 then ((rebusref07_Decimal.f kj1 a0_1).bind fun t198=>(if 5 + t198.size ≤ 9223372036854775807 then (some ((⟨#[109,111,118,101,32]⟩ : ByteArray) ++ t198,true)) else (none))) else (if 0 ≤ a0_0 then (if a0_0 < (t195.length : Int) then (some (rdOf ByteArray.empty t195 a0_0,true)) else (none)) else (none))))) = some (r1,r2):=by rw [if_neg (show ¬ (false = true) by decide)] at H;exact H
    clear H
    have H:=H1
    clear H1
    replace H:=Option.bind_eq_some_iff.mp H
    obtain ⟨t195,A220,H⟩:=H
    replace H : (if a0_0 = 1 then (rebusref24_line.l0 kj1 0 a0_0 a0_1 a0_2) else (if a0_0 = 3 then ((rebusref07_Decimal.f kj1 a0_1).bind fun t198=>(if 5 + t198.size ≤ 9223372036854775807 then (some ((⟨#[109,111,118,101,32]⟩ : ByteArray) ++ t198,true)) else (none))) else (if 0 ≤ a0_0 then (if a0_0 < (t195.length : Int) then (some (rdOf ByteArray.empty t195 a0_0,true)) else (none)) else (none)))) = some (r1,r2):=H
    have A22:=Aside0.mk A220
    clear A220
    by_cases c23 : a0_0 = 1
    ·rw [if_pos c23] at H
     have c23b0 : (a0_0 == 1) = true:=beq_iff_eq.mpr c23
     have c23b1 : (a0_0 != 1) = false:=bne_eq_false_iff_eq.mpr c23
     clear c23
     have H':=Aside0.mk H
     clear H
     go_wp2_with (first | (go_at_call 44;(with_reducible refine (rebusref24_names.calls  t195 _ A22.out).mono ?_);rintro e w24 ⟨v196,rfl,ho0,hb⟩;have n0_:=Aside0.mk (Kd.R_lower ho0 (below_size (by repeat (first | (with_reducible first | exact HB.out | apply below_alloc | apply pw_below_drewN | apply below_drew1 | refine below_set ?_ GE194.out) | exact HB.out))));have n1_:=Aside0.mk (blk_below (g:=gb194) (o:=.cells #[.int .i64 a0_0,.int .i64 a0_1,.string a0_2] 35 (0,0)) (by (with_reducible repeat (first | refine blk_drewN ?_ _ | refine blk_drew ?_ | refine blk_alloc ?_ _));exact BK194.out) hb);have n2_:=Aside0.mk (below_step (by repeat (first | (with_reducible first | exact HB.out | apply below_alloc | apply pw_below_drewN | apply below_drew1 | refine below_set ?_ GE194.out) | exact HB.out)) hb);clear BK194;clear HB;have HO197:=n0_;have BK194:=n1_;have HB:=n2_;clear n0_ n1_ n2_;(try clear hb);(try clear hb2);(try clear hk);(try clear hi);(try clear ho0);have hcz25_0 : w24.cell? ⟨gb194,0,none⟩ = some (.int .i64 a0_0):=(blk_cell BK194.out 0).trans rfl;have hcz25_1 : w24.cell? ⟨gb194,1,none⟩ = some (.int .i64 a0_1):=(blk_cell BK194.out 1).trans rfl;have hcz25_2 : w24.cell? ⟨gb194,2,none⟩ = some (.string a0_2):=(blk_cell BK194.out 2).trans rfl;have hfz25_0:=blk_frozen BK194.out 0;have hfz25_1:=blk_frozen BK194.out 1;have hfz25_2:=blk_frozen BK194.out 2))
     repeat (go_quiet (first | (go_at_call 44;(with_reducible refine (rebusref24_names.calls  t195 _ A22.out).mono ?_);rintro e w24 ⟨v196,rfl,ho0,hb⟩;have n0_:=Aside0.mk (Kd.R_lower ho0 (below_size (by repeat (first | (with_reducible first | exact HB.out | apply below_alloc | apply pw_below_drewN | apply below_drew1 | refine below_set ?_ GE194.out) | exact HB.out))));have n1_:=Aside0.mk (blk_below (g:=gb194) (o:=.cells #[.int .i64 a0_0,.int .i64 a0_1,.string a0_2] 35 (0,0)) (by (with_reducible repeat (first | refine blk_drewN ?_ _ | refine blk_drew ?_ | refine blk_alloc ?_ _));exact BK194.out) hb);have n2_:=Aside0.mk (below_step (by repeat (first | (with_reducible first | exact HB.out | apply below_alloc | apply pw_below_drewN | apply below_drew1 | refine below_set ?_ GE194.out) | exact HB.out)) hb);clear BK194;clear HB;have HO197:=n0_;have BK194:=n1_;have HB:=n2_;clear n0_ n1_ n2_;(try clear hb);(try clear hb2);(try clear hk);(try clear hi);(try clear ho0);have hcz25_0 : w24.cell? ⟨gb194,0,none⟩ = some (.int .i64 a0_0):=(blk_cell BK194.out 0).trans rfl;have hcz25_1 : w24.cell? ⟨gb194,1,none⟩ = some (.int .i64 a0_1):=(blk_cell BK194.out 1).trans rfl;have hcz25_2 : w24.cell? ⟨gb194,2,none⟩ = some (.string a0_2):=(blk_cell BK194.out 2).trans rfl;have hfz25_0:=blk_frozen BK194.out 0;have hfz25_1:=blk_frozen BK194.out 1;have hfz25_2:=blk_frozen BK194.out 2));try go_wp2_with (first | (go_at_call 44;(with_reducible refine (rebusref24_names.calls  t195 _ A22.out).mono ?_);rintro e w24 ⟨v196,rfl,ho0,hb⟩;have n0_:=Aside0.mk (Kd.R_lower ho0 (below_size (by repeat (first | (with_reducible first | exact HB.out | apply below_alloc | apply pw_below_drewN | apply below_drew1 | refine below_set ?_ GE194.out) | exact HB.out))));have n1_:=Aside0.mk (blk_below (g:=gb194) (o:=.cells #[.int .i64 a0_0,.int .i64 a0_1,.string a0_2] 35 (0,0)) (by (with_reducible repeat (first | refine blk_drewN ?_ _ | refine blk_drew ?_ | refine blk_alloc ?_ _));exact BK194.out) hb);have n2_:=Aside0.mk (below_step (by repeat (first | (with_reducible first | exact HB.out | apply below_alloc | apply pw_below_drewN | apply below_drew1 | refine below_set ?_ GE194.out) | exact HB.out)) hb);clear BK194;clear HB;have HO197:=n0_;have BK194:=n1_;have HB:=n2_;clear n0_ n1_ n2_;(try clear hb);(try clear hb2);(try clear hk);(try clear hi);(try clear ho0);have hcz25_0 : w24.cell? ⟨gb194,0,none⟩ = some (.int .i64 a0_0):=(blk_cell BK194.out 0).trans rfl;have hcz25_1 : w24.cell? ⟨gb194,1,none⟩ = some (.int .i64 a0_1):=(blk_cell BK194.out 1).trans rfl;have hcz25_2 : w24.cell? ⟨gb194,2,none⟩ = some (.string a0_2):=(blk_cell BK194.out 2).trans rfl;have hfz25_0:=blk_frozen BK194.out 0;have hfz25_1:=blk_frozen BK194.out 1;have hfz25_2:=blk_frozen BK194.out 2)))
     go_loopg [5] kj1 (fun kq v5 w'=>∃ (x5_2 : Int),v5 = .int .i64 x5_2 ∧ Aside0 (rebusref24_line.l0 kq x5_2 a0_0 a0_1 a0_2 = some (r1,r2)) ∧ Aside0 (kq ≤ kj1) ∧ Aside0 (w'.heap[gb194]? = some (.cells #[.int .i64 a0_0,.int .i64 a0_1,.string a0_2] 35 (0,0))) ∧ Aside0 (Below w.heap.size w w'))
     case atStart=>exact ⟨(0),(by first | rfl | (simp;done) | (simp [*];done)),H',⟨Nat.le_refl _⟩,⟨by (with_reducible repeat (first | refine blk_drewN ?_ _ | refine blk_drew ?_ | refine blk_alloc ?_ _));exact BK194.out⟩,⟨by repeat (first | (with_reducible first | exact HB.out | apply below_alloc | apply pw_below_drewN | apply below_drew1 | refine below_set ?_ GE194.out) | exact HB.out)⟩⟩
     case round =>
      clear H'
      try clear c1
      try clear c2
      try clear p2
      try clear c4
      try clear c4b0
      try clear c6
      try clear c6b0
      try clear c8
      try clear c8b0
      try clear c8b1
      try clear c9
      try clear c9b0
      try clear c9b1
      try clear c11
      try clear c11b0
      try clear c11b1
      try clear c14
      try clear c14b0
      try clear c14b1
      try clear c15
      try clear c15b0
      try clear c15b1
      try clear c17
      try clear c17b0
      try clear c17b1
      try clear c21
      try clear c23
      try clear c23b0
      try clear c23b1
      try clear c24
      try clear hcz10_0
      try clear hcz10_1
      try clear hcz10_2
      try clear hcz12_0
      try clear hcz12_1
      try clear hcz12_2
      try clear hcz13_0
      try clear hcz13_1
      try clear hcz13_2
      try clear hcz16_0
      try clear hcz16_1
      try clear hcz16_2
      try clear hcz18_0
      try clear hcz18_1
      try clear hcz18_2
      try clear hcz19_0
      try clear hcz19_1
      try clear hcz19_2
      try clear hcz20_0
      try clear hcz20_1
      try clear hcz20_2
      try clear hcz25_0
      try clear hcz25_1
      try clear hcz25_2
      try clear hcz5_0
      try clear hcz5_1
      try clear hcz5_2
      try clear hcz7_0
      try clear hcz7_1
      try clear hcz7_2
      try clear hfz10_0
      try clear hfz10_1
      try clear hfz10_2
      try clear hfz12_0
      try clear hfz12_1
      try clear hfz12_2
      try clear hfz13_0
      try clear hfz13_1
      try clear hfz13_2
      try clear hfz16_0
      try clear hfz16_1
      try clear hfz16_2
      try clear hfz18_0
      try clear hfz18_1
      try clear hfz18_2
      try clear hfz19_0
      try clear hfz19_1
      try clear hfz19_2
      try clear hfz20_0
      try clear hfz20_1
      try clear hfz20_2
      try clear hfz25_0
      try clear hfz25_1
      try clear hfz25_2
      try clear hfz5_0
      try clear hfz5_1
      try clear hfz5_2
      try clear hfz7_0
      try clear hfz7_1
      try clear hfz7_2
      try clear p2
      obtain ⟨x5_2,rfl,HA,HK2,BK194,HB⟩:=hrel
      cases gk with
      | zero=>exact absurd HA.out (by simp [rebusref24_line.l0])
      | succ k2 =>
       have H:=HA.out
       clear HA
       simp only [rebusref24_line.l0] at H
       by_cases c26 : x5_2 < (a0_2.size : Int)
       ·rw [if_pos c26] at H
        have c26b0 : decide (x5_2 < (a0_2.size : Int)) = true:=decide_eq_true c26
        clear c26
        by_cases c27 : 0 ≤ x5_2
        ·rw [if_pos c27] at H
         have c27b0 : decide (0 ≤ x5_2) = true:=decide_eq_true c27
         clear c27
         by_cases c29 : (bt a0_2 x5_2) = 10
         ·rw [if_pos c29] at H
          have c29b0 : ((bt a0_2 x5_2) == 10) = true:=beq_iff_eq.mpr c29
          have c29b1 : ((bt a0_2 x5_2) != 10) = false:=bne_eq_false_iff_eq.mpr c29
          clear c29
          simp only [Option.some.injEq,Prod.mk.injEq] at H
          obtain ⟨rfl,rfl⟩:=H
          have hcz30_0 : wr.cell? ⟨gb194,0,none⟩ = some (.int .i64 a0_0):=(blk_cell BK194.out 0).trans rfl
          have hcz30_1 : wr.cell? ⟨gb194,1,none⟩ = some (.int .i64 a0_1):=(blk_cell BK194.out 1).trans rfl
          have hcz30_2 : wr.cell? ⟨gb194,2,none⟩ = some (.string a0_2):=(blk_cell BK194.out 2).trans rfl
          have hfz30_0:=blk_frozen BK194.out 0
          have hfz30_1:=blk_frozen BK194.out 1
          have hfz30_2:=blk_frozen BK194.out 2
          have p28 : 0 ≤ (x5_2 : Int):=of_decide_eq_true (by first | (with_reducible assumption) | assumption)
          have q28 : x5_2 < (a0_2.size : Int):=of_decide_eq_true (by first | (with_reducible assumption) | assumption)
          have hx28:=bt_at a0_2 x5_2
          replace p28:=eq_true p28
          replace q28:=eq_true q28
          go_wp2
          repeat (go_quiet (fail);try go_wp2)
          go_ret2
          exact ⟨by first | rfl | (rw [show (a0_2.toList != ([] : List UInt8)) = !a0_2.toList.isEmpty by cases a0_2.toList <;> rfl];rfl) | (simp [errW_none,errW_some] <;> rfl) | (simp [*,errW_none,errW_some] <;> rfl) | (exfalso;contradiction),by repeat (first | (with_reducible first | exact HB.out | apply below_alloc | apply pw_below_drewN | apply below_drew1 | refine below_set ?_ GE194.out) | exact HB.out)⟩
         ·rw [if_neg c29] at H
          have c29b0 : ((bt a0_2 x5_2) == 10) = false:=beq_eq_false_iff_ne.mpr c29
          have c29b1 : ((bt a0_2 x5_2) != 10) = true:=bne_iff_ne.mpr c29
          have H':=Aside0.mk H
          clear H
          have hcz31_0 : wr.cell? ⟨gb194,0,none⟩ = some (.int .i64 a0_0):=(blk_cell BK194.out 0).trans rfl
          have hcz31_1 : wr.cell? ⟨gb194,1,none⟩ = some (.int .i64 a0_1):=(blk_cell BK194.out 1).trans rfl
          have hcz31_2 : wr.cell? ⟨gb194,2,none⟩ = some (.string a0_2):=(blk_cell BK194.out 2).trans rfl
          have hfz31_0:=blk_frozen BK194.out 0
          have hfz31_1:=blk_frozen BK194.out 1
          have hfz31_2:=blk_frozen BK194.out 2
          have p28 : 0 ≤ (x5_2 : Int):=of_decide_eq_true (by first | (with_reducible assumption) | assumption)
          have q28 : x5_2 < (a0_2.size : Int):=of_decide_eq_true (by first | (with_reducible assumption) | assumption)
          have hx28:=bt_at a0_2 x5_2
          replace p28:=eq_true p28
          replace q28:=eq_true q28
          go_wp2
          repeat (go_quiet (fail);try go_wp2)
          go_roundg k2
          case measure=>have:=HJ1.out;have:=HK2.out;omega
          case rel=>exact ⟨(wrap64 (x5_2 + 1)),(by first | rfl | (simp;done) | (simp [*];done)),H',⟨by have:=HJ1.out;have:=HK2.out;omega⟩,⟨by (with_reducible repeat (first | refine blk_drewN ?_ _ | refine blk_drew ?_ | refine blk_alloc ?_ _));exact BK194.out⟩,⟨by repeat (first | (with_reducible first | exact HB.out | apply below_alloc | apply pw_below_drewN | apply below_drew1 | refine below_set ?_ GE194.out) | exact HB.out)⟩⟩
        ·rw [if_neg c27] at H
         exact absurd H (by simp)
       ·rw [if_neg c26] at H
        have c26b0 : decide (x5_2 < (a0_2.size : Int)) = false:=decide_eq_false c26
        clear c26
        by_cases c32 : 5 + a0_2.size ≤ 9223372036854775807
        ·rw [if_pos c32] at H
         have c32b0:=eq_true c32
         have c32b1 : decide (5 + a0_2.size ≤ 9223372036854775807) = true:=decide_eq_true c32
         try have c32b2 : (9223372036854775807 < 5 + a0_2.size) = False:=eq_false (Nat.not_lt.2 c32)
         simp only [Option.some.injEq,Prod.mk.injEq] at H
         obtain ⟨rfl,rfl⟩:=H
         have hcz33_0 : wr.cell? ⟨gb194,0,none⟩ = some (.int .i64 a0_0):=(blk_cell BK194.out 0).trans rfl
         have hcz33_1 : wr.cell? ⟨gb194,1,none⟩ = some (.int .i64 a0_1):=(blk_cell BK194.out 1).trans rfl
         have hcz33_2 : wr.cell? ⟨gb194,2,none⟩ = some (.string a0_2):=(blk_cell BK194.out 2).trans rfl
         have hfz33_0:=blk_frozen BK194.out 0
         have hfz33_1:=blk_frozen BK194.out 1
         have hfz33_2:=blk_frozen BK194.out 2
         go_wp2
         repeat (go_quiet (fail);try go_wp2)
         go_ret2
         exact ⟨by first | rfl | (rw [show (a0_2.toList != ([] : List UInt8)) = !a0_2.toList.isEmpty by cases a0_2.toList <;> rfl];rfl) | (simp [errW_none,errW_some] <;> rfl) | (simp [*,errW_none,errW_some] <;> rfl) | (exfalso;contradiction),by repeat (first | (with_reducible first | exact HB.out | apply below_alloc | apply pw_below_drewN | apply below_drew1 | refine below_set ?_ GE194.out) | exact HB.out)⟩
        ·rw [if_neg c32] at H
         exact absurd H (by simp)
    ·rw [if_neg c23] at H
     have c23b0 : (a0_0 == 1) = false:=beq_eq_false_iff_ne.mpr c23
     have c23b1 : (a0_0 != 1) = true:=bne_iff_ne.mpr c23
     by_cases c34 : a0_0 = 3
     ·rw [if_pos c34] at H
      have c34b0 : (a0_0 == 3) = true:=beq_iff_eq.mpr c34
      have c34b1 : (a0_0 != 3) = false:=bne_eq_false_iff_eq.mpr c34
      clear c34
      replace H:=Option.bind_eq_some_iff.mp H
      obtain ⟨t198,A350,H⟩:=H
      replace H : (if 5 + t198.size ≤ 9223372036854775807 then (some ((⟨#[109,111,118,101,32]⟩ : ByteArray) ++ t198,true)) else (none)) = some (r1,r2):=H
      have A35:=Aside0.mk A350
      clear A350
      by_cases c36 : 5 + t198.size ≤ 9223372036854775807
      ·rw [if_pos c36] at H
       have c36b0:=eq_true c36
       have c36b1 : decide (5 + t198.size ≤ 9223372036854775807) = true:=decide_eq_true c36
       try have c36b2 : (9223372036854775807 < 5 + t198.size) = False:=eq_false (Nat.not_lt.2 c36)
       simp only [Option.some.injEq,Prod.mk.injEq] at H
       obtain ⟨rfl,rfl⟩:=H
       go_wp2_with (first | (go_at_call 44;(with_reducible refine (rebusref24_names.calls  t195 _ A22.out).mono ?_);rintro e w37 ⟨v196,rfl,ho0,hb⟩;have n0_:=Aside0.mk (Kd.R_lower ho0 (below_size (by repeat (first | (with_reducible first | exact HB.out | apply below_alloc | apply pw_below_drewN | apply below_drew1 | refine below_set ?_ GE194.out) | exact HB.out))));have n1_:=Aside0.mk (blk_below (g:=gb194) (o:=.cells #[.int .i64 a0_0,.int .i64 a0_1,.string a0_2] 35 (0,0)) (by (with_reducible repeat (first | refine blk_drewN ?_ _ | refine blk_drew ?_ | refine blk_alloc ?_ _));exact BK194.out) hb);have n2_:=Aside0.mk (below_step (by repeat (first | (with_reducible first | exact HB.out | apply below_alloc | apply pw_below_drewN | apply below_drew1 | refine below_set ?_ GE194.out) | exact HB.out)) hb);clear BK194;clear HB;have HO197:=n0_;have BK194:=n1_;have HB:=n2_;clear n0_ n1_ n2_;(try clear hb);(try clear hb2);(try clear hk);(try clear hi);(try clear ho0);have hcz38_0 : w37.cell? ⟨gb194,0,none⟩ = some (.int .i64 a0_0):=(blk_cell BK194.out 0).trans rfl;have hcz38_1 : w37.cell? ⟨gb194,1,none⟩ = some (.int .i64 a0_1):=(blk_cell BK194.out 1).trans rfl;have hcz38_2 : w37.cell? ⟨gb194,2,none⟩ = some (.string a0_2):=(blk_cell BK194.out 2).trans rfl;have hfz38_0:=blk_frozen BK194.out 0;have hfz38_1:=blk_frozen BK194.out 1;have hfz38_2:=blk_frozen BK194.out 2) | (go_at_call 45;(with_reducible refine (rebusref07_Decimal.calls kj1 a0_1 t198 _ A35.out).mono ?_);rintro e w39 ⟨rfl,hb⟩;have n0_:=Aside0.mk (Kd.R_below (by (with_reducible repeat (first | apply Kd.R_alloc | apply Kd.R_drewN | apply Kd.R_drew));exact HO197.out) hb);have n1_:=Aside0.mk (blk_below (g:=gb194) (o:=.cells #[.int .i64 a0_0,.int .i64 a0_1,.string a0_2] 35 (0,0)) (by (with_reducible repeat (first | refine blk_drewN ?_ _ | refine blk_drew ?_ | refine blk_alloc ?_ _));exact BK194.out) hb);have n2_:=Aside0.mk (below_step (by repeat (first | (with_reducible first | exact HB.out | apply below_alloc | apply pw_below_drewN | apply below_drew1 | refine below_set ?_ GE194.out) | exact HB.out)) hb);clear HO197;clear BK194;clear HB;have HO197:=n0_;have BK194:=n1_;have HB:=n2_;clear n0_ n1_ n2_;(try clear hb);(try clear hb2);(try clear hk);(try clear hi)))
       repeat (go_quiet (first | (go_at_call 44;(with_reducible refine (rebusref24_names.calls  t195 _ A22.out).mono ?_);rintro e w37 ⟨v196,rfl,ho0,hb⟩;have n0_:=Aside0.mk (Kd.R_lower ho0 (below_size (by repeat (first | (with_reducible first | exact HB.out | apply below_alloc | apply pw_below_drewN | apply below_drew1 | refine below_set ?_ GE194.out) | exact HB.out))));have n1_:=Aside0.mk (blk_below (g:=gb194) (o:=.cells #[.int .i64 a0_0,.int .i64 a0_1,.string a0_2] 35 (0,0)) (by (with_reducible repeat (first | refine blk_drewN ?_ _ | refine blk_drew ?_ | refine blk_alloc ?_ _));exact BK194.out) hb);have n2_:=Aside0.mk (below_step (by repeat (first | (with_reducible first | exact HB.out | apply below_alloc | apply pw_below_drewN | apply below_drew1 | refine below_set ?_ GE194.out) | exact HB.out)) hb);clear BK194;clear HB;have HO197:=n0_;have BK194:=n1_;have HB:=n2_;clear n0_ n1_ n2_;(try clear hb);(try clear hb2);(try clear hk);(try clear hi);(try clear ho0);have hcz38_0 : w37.cell? ⟨gb194,0,none⟩ = some (.int .i64 a0_0):=(blk_cell BK194.out 0).trans rfl;have hcz38_1 : w37.cell? ⟨gb194,1,none⟩ = some (.int .i64 a0_1):=(blk_cell BK194.out 1).trans rfl;have hcz38_2 : w37.cell? ⟨gb194,2,none⟩ = some (.string a0_2):=(blk_cell BK194.out 2).trans rfl;have hfz38_0:=blk_frozen BK194.out 0;have hfz38_1:=blk_frozen BK194.out 1;have hfz38_2:=blk_frozen BK194.out 2) | (go_at_call 45;(with_reducible refine (rebusref07_Decimal.calls kj1 a0_1 t198 _ A35.out).mono ?_);rintro e w39 ⟨rfl,hb⟩;have n0_:=Aside0.mk (Kd.R_below (by (with_reducible repeat (first | apply Kd.R_alloc | apply Kd.R_drewN | apply Kd.R_drew));exact HO197.out) hb);have n1_:=Aside0.mk (blk_below (g:=gb194) (o:=.cells #[.int .i64 a0_0,.int .i64 a0_1,.string a0_2] 35 (0,0)) (by (with_reducible repeat (first | refine blk_drewN ?_ _ | refine blk_drew ?_ | refine blk_alloc ?_ _));exact BK194.out) hb);have n2_:=Aside0.mk (below_step (by repeat (first | (with_reducible first | exact HB.out | apply below_alloc | apply pw_below_drewN | apply below_drew1 | refine below_set ?_ GE194.out) | exact HB.out)) hb);clear HO197;clear BK194;clear HB;have HO197:=n0_;have BK194:=n1_;have HB:=n2_;clear n0_ n1_ n2_;(try clear hb);(try clear hb2);(try clear hk);(try clear hi)));try go_wp2_with (first | (go_at_call 44;(with_reducible refine (rebusref24_names.calls  t195 _ A22.out).mono ?_);rintro e w37 ⟨v196,rfl,ho0,hb⟩;have n0_:=Aside0.mk (Kd.R_lower ho0 (below_size (by repeat (first | (with_reducible first | exact HB.out | apply below_alloc | apply pw_below_drewN | apply below_drew1 | refine below_set ?_ GE194.out) | exact HB.out))));have n1_:=Aside0.mk (blk_below (g:=gb194) (o:=.cells #[.int .i64 a0_0,.int .i64 a0_1,.string a0_2] 35 (0,0)) (by (with_reducible repeat (first | refine blk_drewN ?_ _ | refine blk_drew ?_ | refine blk_alloc ?_ _));exact BK194.out) hb);have n2_:=Aside0.mk (below_step (by repeat (first | (with_reducible first | exact HB.out | apply below_alloc | apply pw_below_drewN | apply below_drew1 | refine below_set ?_ GE194.out) | exact HB.out)) hb);clear BK194;clear HB;have HO197:=n0_;have BK194:=n1_;have HB:=n2_;clear n0_ n1_ n2_;(try clear hb);(try clear hb2);(try clear hk);(try clear hi);(try clear ho0);have hcz38_0 : w37.cell? ⟨gb194,0,none⟩ = some (.int .i64 a0_0):=(blk_cell BK194.out 0).trans rfl;have hcz38_1 : w37.cell? ⟨gb194,1,none⟩ = some (.int .i64 a0_1):=(blk_cell BK194.out 1).trans rfl;have hcz38_2 : w37.cell? ⟨gb194,2,none⟩ = some (.string a0_2):=(blk_cell BK194.out 2).trans rfl;have hfz38_0:=blk_frozen BK194.out 0;have hfz38_1:=blk_frozen BK194.out 1;have hfz38_2:=blk_frozen BK194.out 2) | (go_at_call 45;(with_reducible refine (rebusref07_Decimal.calls kj1 a0_1 t198 _ A35.out).mono ?_);rintro e w39 ⟨rfl,hb⟩;have n0_:=Aside0.mk (Kd.R_below (by (with_reducible repeat (first | apply Kd.R_alloc | apply Kd.R_drewN | apply Kd.R_drew));exact HO197.out) hb);have n1_:=Aside0.mk (blk_below (g:=gb194) (o:=.cells #[.int .i64 a0_0,.int .i64 a0_1,.string a0_2] 35 (0,0)) (by (with_reducible repeat (first | refine blk_drewN ?_ _ | refine blk_drew ?_ | refine blk_alloc ?_ _));exact BK194.out) hb);have n2_:=Aside0.mk (below_step (by repeat (first | (with_reducible first | exact HB.out | apply below_alloc | apply pw_below_drewN | apply below_drew1 | refine below_set ?_ GE194.out) | exact HB.out)) hb);clear HO197;clear BK194;clear HB;have HO197:=n0_;have BK194:=n1_;have HB:=n2_;clear n0_ n1_ n2_;(try clear hb);(try clear hb2);(try clear hk);(try clear hi))))
       go_ret2
       exact ⟨by first | rfl | (rw [show (a0_2.toList != ([] : List UInt8)) = !a0_2.toList.isEmpty by cases a0_2.toList <;> rfl];rfl) | (simp [errW_none,errW_some] <;> rfl) | (simp [*,errW_none,errW_some] <;> rfl) | (exfalso;contradiction),by repeat (first | (with_reducible first | exact HB.out | apply below_alloc | apply pw_below_drewN | apply below_drew1 | refine below_set ?_ GE194.out) | exact HB.out)⟩
      ·rw [if_neg c36] at H
       exact absurd H (by simp)
     ·rw [if_neg c34] at H
      have c34b0 : (a0_0 == 3) = false:=beq_eq_false_iff_ne.mpr c34
      have c34b1 : (a0_0 != 3) = true:=bne_iff_ne.mpr c34
      by_cases c40 : 0 ≤ a0_0
      ·rw [if_pos c40] at H
       have c40b0 : decide (0 ≤ a0_0) = true:=decide_eq_true c40
       clear c40
       by_cases c41 : a0_0 < (t195.length : Int)
       ·rw [if_pos c41] at H
        have c41b0 : decide (a0_0 < (t195.length : Int)) = true:=decide_eq_true c41
        clear c41
        simp only [Option.some.injEq,Prod.mk.injEq] at H
        obtain ⟨rfl,rfl⟩:=H
        go_wp2_with (first | (go_at_call 44;(with_reducible refine (rebusref24_names.calls  t195 _ A22.out).mono ?_);rintro e w42 ⟨v196,rfl,ho0,hb⟩;have n0_:=Aside0.mk (Kd.R_lower ho0 (below_size (by repeat (first | (with_reducible first | exact HB.out | apply below_alloc | apply pw_below_drewN | apply below_drew1 | refine below_set ?_ GE194.out) | exact HB.out))));have n1_:=Aside0.mk (blk_below (g:=gb194) (o:=.cells #[.int .i64 a0_0,.int .i64 a0_1,.string a0_2] 35 (0,0)) (by (with_reducible repeat (first | refine blk_drewN ?_ _ | refine blk_drew ?_ | refine blk_alloc ?_ _));exact BK194.out) hb);have n2_:=Aside0.mk (below_step (by repeat (first | (with_reducible first | exact HB.out | apply below_alloc | apply pw_below_drewN | apply below_drew1 | refine below_set ?_ GE194.out) | exact HB.out)) hb);clear BK194;clear HB;have HO197:=n0_;have BK194:=n1_;have HB:=n2_;clear n0_ n1_ n2_;(try clear hb);(try clear hb2);(try clear hk);(try clear hi);(try clear ho0);have hcz43_0 : w42.cell? ⟨gb194,0,none⟩ = some (.int .i64 a0_0):=(blk_cell BK194.out 0).trans rfl;have hcz43_1 : w42.cell? ⟨gb194,1,none⟩ = some (.int .i64 a0_1):=(blk_cell BK194.out 1).trans rfl;have hcz43_2 : w42.cell? ⟨gb194,2,none⟩ = some (.string a0_2):=(blk_cell BK194.out 2).trans rfl;have hfz43_0:=blk_frozen BK194.out 0;have hfz43_1:=blk_frozen BK194.out 1;have hfz43_2:=blk_frozen BK194.out 2;obtain ⟨Ao44,co44,eo44⟩:=Kd.R_slice HO197.out;subst eo44;have p199 : 0 ≤ (a0_0 : Int):=of_decide_eq_true (by first | (with_reducible assumption) | assumption);have q199 : a0_0 < (t195.length : Int):=of_decide_eq_true (by first | (with_reducible assumption) | assumption);obtain ⟨ad199,e199,hx199_0⟩:=Kd.at_string (Kd.R_reads' HO197.out).2.2 a0_0 p199 q199;cases e199;replace p199:=eq_true p199;replace q199:=eq_true q199))
        repeat (go_quiet (first | (go_at_call 44;(with_reducible refine (rebusref24_names.calls  t195 _ A22.out).mono ?_);rintro e w42 ⟨v196,rfl,ho0,hb⟩;have n0_:=Aside0.mk (Kd.R_lower ho0 (below_size (by repeat (first | (with_reducible first | exact HB.out | apply below_alloc | apply pw_below_drewN | apply below_drew1 | refine below_set ?_ GE194.out) | exact HB.out))));have n1_:=Aside0.mk (blk_below (g:=gb194) (o:=.cells #[.int .i64 a0_0,.int .i64 a0_1,.string a0_2] 35 (0,0)) (by (with_reducible repeat (first | refine blk_drewN ?_ _ | refine blk_drew ?_ | refine blk_alloc ?_ _));exact BK194.out) hb);have n2_:=Aside0.mk (below_step (by repeat (first | (with_reducible first | exact HB.out | apply below_alloc | apply pw_below_drewN | apply below_drew1 | refine below_set ?_ GE194.out) | exact HB.out)) hb);clear BK194;clear HB;have HO197:=n0_;have BK194:=n1_;have HB:=n2_;clear n0_ n1_ n2_;(try clear hb);(try clear hb2);(try clear hk);(try clear hi);(try clear ho0);have hcz43_0 : w42.cell? ⟨gb194,0,none⟩ = some (.int .i64 a0_0):=(blk_cell BK194.out 0).trans rfl;have hcz43_1 : w42.cell? ⟨gb194,1,none⟩ = some (.int .i64 a0_1):=(blk_cell BK194.out 1).trans rfl;have hcz43_2 : w42.cell? ⟨gb194,2,none⟩ = some (.string a0_2):=(blk_cell BK194.out 2).trans rfl;have hfz43_0:=blk_frozen BK194.out 0;have hfz43_1:=blk_frozen BK194.out 1;have hfz43_2:=blk_frozen BK194.out 2;obtain ⟨Ao44,co44,eo44⟩:=Kd.R_slice HO197.out;subst eo44;have p199 : 0 ≤ (a0_0 : Int):=of_decide_eq_true (by first | (with_reducible assumption) | assumption);have q199 : a0_0 < (t195.length : Int):=of_decide_eq_true (by first | (with_reducible assumption) | assumption);obtain ⟨ad199,e199,hx199_0⟩:=Kd.at_string (Kd.R_reads' HO197.out).2.2 a0_0 p199 q199;cases e199;replace p199:=eq_true p199;replace q199:=eq_true q199));try go_wp2_with (first | (go_at_call 44;(with_reducible refine (rebusref24_names.calls  t195 _ A22.out).mono ?_);rintro e w42 ⟨v196,rfl,ho0,hb⟩;have n0_:=Aside0.mk (Kd.R_lower ho0 (below_size (by repeat (first | (with_reducible first | exact HB.out | apply below_alloc | apply pw_below_drewN | apply below_drew1 | refine below_set ?_ GE194.out) | exact HB.out))));have n1_:=Aside0.mk (blk_below (g:=gb194) (o:=.cells #[.int .i64 a0_0,.int .i64 a0_1,.string a0_2] 35 (0,0)) (by (with_reducible repeat (first | refine blk_drewN ?_ _ | refine blk_drew ?_ | refine blk_alloc ?_ _));exact BK194.out) hb);have n2_:=Aside0.mk (below_step (by repeat (first | (with_reducible first | exact HB.out | apply below_alloc | apply pw_below_drewN | apply below_drew1 | refine below_set ?_ GE194.out) | exact HB.out)) hb);clear BK194;clear HB;have HO197:=n0_;have BK194:=n1_;have HB:=n2_;clear n0_ n1_ n2_;(try clear hb);(try clear hb2);(try clear hk);(try clear hi);(try clear ho0);have hcz43_0 : w42.cell? ⟨gb194,0,none⟩ = some (.int .i64 a0_0):=(blk_cell BK194.out 0).trans rfl;have hcz43_1 : w42.cell? ⟨gb194,1,none⟩ = some (.int .i64 a0_1):=(blk_cell BK194.out 1).trans rfl;have hcz43_2 : w42.cell? ⟨gb194,2,none⟩ = some (.string a0_2):=(blk_cell BK194.out 2).trans rfl;have hfz43_0:=blk_frozen BK194.out 0;have hfz43_1:=blk_frozen BK194.out 1;have hfz43_2:=blk_frozen BK194.out 2;obtain ⟨Ao44,co44,eo44⟩:=Kd.R_slice HO197.out;subst eo44;have p199 : 0 ≤ (a0_0 : Int):=of_decide_eq_true (by first | (with_reducible assumption) | assumption);have q199 : a0_0 < (t195.length : Int):=of_decide_eq_true (by first | (with_reducible assumption) | assumption);obtain ⟨ad199,e199,hx199_0⟩:=Kd.at_string (Kd.R_reads' HO197.out).2.2 a0_0 p199 q199;cases e199;replace p199:=eq_true p199;replace q199:=eq_true q199)))
        go_ret2
        exact ⟨by first | rfl | (rw [show (a0_2.toList != ([] : List UInt8)) = !a0_2.toList.isEmpty by cases a0_2.toList <;> rfl];rfl) | (simp [errW_none,errW_some] <;> rfl) | (simp [*,errW_none,errW_some] <;> rfl) | (exfalso;contradiction),by repeat (first | (with_reducible first | exact HB.out | apply below_alloc | apply pw_below_drewN | apply below_drew1 | refine below_set ?_ GE194.out) | exact HB.out)⟩
       ·rw [if_neg c41] at H
        exact absurd H (by simp)
      ·rw [if_neg c40] at H
       exact absurd H (by simp)
end Go.Proofs.YtjopbfidjapmbaaGreatDoor.Q
