/- PART 16 OF A PROOF: Lean functions, and that the program computes them; written by hand and by a program. Not trusted: Lean checks it. -/
import Derived.Lib.AppendIntMem
import Derived.Lib.AtoiErrMem
import Derived.Lib.IndexBytes
import Derived.Test.YtjopbfidjapmbaaGreatDoorTa13
import Derived.Test.YtjopbfidjapmbaaGreatDoorTa14
import Derived.Test.YtjopbfidjapmbaaGreatDoorTa15
set_option linter.unusedVariables false
set_option linter.unusedSimpArgs false
section
namespace Go.Proofs.YtjopbfidjapmbaaGreatDoor.Q
open Go.RowKit Go.Proofs.YtjopbfidjapmbaaGreatDoorW.PrintWords Go.Proofs.YtjopbfidjapmbaaGreatDoorW.PrintLast Go.Proofs.YtjopbfidjapmbaaGreatDoorW.PrintMore
set_option linter.unusedVariables false
set_option linter.unusedSimpArgs false
open Go.Proofs.YtjopbfidjapmbaaGreatDoorS
attribute [local go_sem high] eqA35
def LinePost (a : Act3) (w : World) (e : Ending) (w' : World) : Prop:=∃ s : ByteArray,e = .returned (.tuple #[.string s,.bool (goodA a)]) ∧ (goodA a = true → s.data.toList = lineL a) ∧ s.size ≤ a.f2.size + 40 ∧ Below w.heap.size w w'
theorem ba_append (x y : ByteArray) : (x ++ y).data.toList = x.data.toList ++ y.data.toList:=by simp
theorem ba_size (x y : ByteArray) : (x ++ y).size = x.size + y.size:=by simp
theorem nil_of {x : ByteArray} (h : x.toList = []) : x = ⟨#[]⟩:=by
  have h1 : x.data.toList = []:=by rw [← ByteArray.toList_eq];exact h
  have h2 : x.data = #[]:=by
    have:=congrArg List.toArray h1
    simpa using this
  cases x
  cases h2
  rfl
theorem dec_small {n : Int} (h0 : -9223372036854775808 ≤ n) (h1 : n ≤ 9223372036854775807) : (Lib.itoa n).length ≤ 20:=by
  unfold Lib.itoa
  split
  · rw [List.length_cons]
    have:=dec_len 18 n.natAbs (by omega)
    omega
  · have:=dec_len 18 n.toNat (by omega)
    omega
theorem nm_len (k : Int) : (nmL k).length ≤ 40:=by
  unfold nmL
  repeat' split
  all_goals decide
def plainB (k : Int) : ByteArray:=⟨(nmL k).toArray⟩
theorem plain_calls {k : Int} {w : World} : Calls Tryz.prog 42 #[.int .i64 k] w fun e w'=>e = .returned (.string (plainB k)) ∧ Below w.heap.size w w':=by
  refine (session_plain.calls k (plainB k) w ?_).mono ?_
  · unfold session_plain.f plainB nmL
    repeat' split
    all_goals (first | rfl | contradiction)
  · rintro e w' ⟨rfl,hd⟩
    exact ⟨rfl,hd.below⟩
set_option maxHeartbeats 8000000 in
set_option maxRecDepth 1000000 in
theorem line_calls {a : Act3} {w : World} (hT : Tabs w) (hr : -9223372036854775808 ≤ a.f1 ∧ a.f1 ≤ 9223372036854775807) (hz : a.f2.size ≤ 1048576) :
    Calls Tryz.prog 21 #[.agg #[.int .i64 a.f0,.int .i64 a.f1,.string a.f2]] w (LinePost a w):=by
  have hx:=box1 w (.cells #[.int .i64 a.f0,.int .i64 a.f1,.string a.f2] 35)
  replace hx:=Lib.hid hx
  have x0:=cells3 hx.out.1
  have hu:=Tryz.underlying35
  by_cases h1 : a.f0 = 1
  · have k1 : (a.f0 == 1) = true:=by rw [h1];rfl
    have hg : goodA a = (decide (a.f1 = 0) && !a.f2.toList.isEmpty && !decide (0 ≤ Lib.index a.f2.data.toList [10])):=by unfold goodA;rw [if_pos h1]
    have hl : lineL a = tyL ++ a.f2.data.toList:=by unfold lineL;rw [if_pos h1]
    have big : ¬ (9223372036854775807 < 5 + a.f2.size):=by omega
    replace hl:=Lib.hid hl
    clear h1
    by_cases h2 : a.f1 = 0
    · have k2 : (a.f1 == 0) = true:=by rw [h2];rfl
      rw [decide_eq_true h2,Bool.true_and] at hg
      clear h2
      cases h3 : a.f2.toList.isEmpty with
      | true =>
        rw [h3] at hg
        go_enter Tryz.func21,Tryz.ntmps21
        go_wp2
        refine start_ (n:=19) (S:=fun w'=>w'.heap[w.heap.size]? = some (.cells #[.int .i64 a.f0,.int .i64 a.f1,.string a.f2] 35 (0,0))) (ds:=[]) #[false,false,false,false,false,false,false,false,false,false,false,false,false,false,false,false,false,false,false] (by kernel_rfl) rfl rfl (blk_drew hx.out.1) (fun hHeld=>?_)
        have hB:=below_drew hx.out.2
        generalize (w.alloc (.cells #[.int .i64 a.f0,.int .i64 a.f1,.string a.f2] 35)).drew = w1 at hB hHeld ⊢
        refine pure_ (i:=0) (N:=some 9) (v:=?_) (a':=?_) #[true,false,false,false,false,false,false,false,false,false,false,false,false,false,false,false,false,false,false] rfl rfl (by kernel_rfl) (fun _ _ _ h=>h) (Or.inl ⟨by rfl,?_⟩) ?_ ?_
        rotate_left
        · intro w';go_simp;with_reducible rfl
        rotate_left
        · simp only [Act.put,List.setIfInBounds_toArray,List.set_cons_zero,List.set_cons_succ,i64_w,i32_w];rfl
        refine take_ (i:=1) (N:=some 10) (v:=?_) (a':=?_) #[true,true,false,false,false,false,false,false,false,false,false,false,false,false,false,false,false,false,false] rfl rfl (by kernel_rfl) (fun _ _ _ h=>h) (Or.inl ⟨by rfl,?_⟩) hHeld ?_ ?_
        rotate_left
        · rintro w' s0_;have q0:=cells3 s0_;clear s0_;go_simp;with_reducible rfl
        rotate_left
        · simp only [Act.put,List.setIfInBounds_toArray,List.set_cons_zero,List.set_cons_succ,i64_w,i32_w];rfl
        refine pure_ (i:=2) (N:=some 11) (v:=?_) (a':=?_) #[true,true,true,false,false,false,false,false,false,false,false,false,false,false,false,false,false,false,false] rfl rfl (by kernel_rfl) (fun _ _ _ h=>h) (Or.inl ⟨by rfl,?_⟩) ?_ ?_
        rotate_left
        · intro w';go_simp;with_reducible rfl
        rotate_left
        · simp only [Act.put,List.setIfInBounds_toArray,List.set_cons_zero,List.set_cons_succ,i64_w,i32_w];rfl
        refine pure_ (i:=3) (N:=some 12) (v:=?_) (a':=?_) #[true,true,true,true,false,false,false,false,false,false,false,false,false,false,false,false,false,false,false] rfl rfl (by kernel_rfl) (fun _ _ _ h=>h) (Or.inl ⟨by rfl,?_⟩) ?_ ?_
        rotate_left
        · intro w';go_simp;with_reducible rfl
        rotate_left
        · simp only [Act.put,List.setIfInBounds_toArray,List.set_cons_zero,List.set_cons_succ,i64_w,i32_w];rfl
        refine take_ (i:=4) (N:=some 13) (v:=?_) (a':=?_) #[true,true,true,true,true,false,false,false,false,false,false,false,false,false,false,false,false,false,false] rfl rfl (by kernel_rfl) (fun _ _ _ h=>h) (Or.inl ⟨by rfl,?_⟩) hHeld ?_ ?_
        rotate_left
        · rintro w' s0_;have q0:=cells3 s0_;clear s0_;go_simp;with_reducible rfl
        rotate_left
        · simp only [Act.put,List.setIfInBounds_toArray,List.set_cons_zero,List.set_cons_succ,i64_w,i32_w];rfl
        refine pure_ (i:=5) (N:=some 14) (v:=?_) (a':=?_) #[true,true,true,true,true,true,false,false,false,false,false,false,false,false,false,false,false,false,false] rfl rfl (by kernel_rfl) (fun _ _ _ h=>h) (Or.inl ⟨by rfl,?_⟩) ?_ ?_
        rotate_left
        · intro w';go_simp;with_reducible rfl
        rotate_left
        · simp only [Act.put,List.setIfInBounds_toArray,List.set_cons_zero,List.set_cons_succ,i64_w,i32_w];rfl
        refine pure_ (i:=6) (N:=some 15) (v:=?_) (a':=?_) #[true,true,true,true,true,true,true,false,false,false,false,false,false,false,false,false,false,false,false] rfl rfl (by kernel_rfl) (fun _ _ _ h=>h) (Or.inl ⟨by rfl,?_⟩) ?_ ?_
        rotate_left
        · intro w';go_simp;with_reducible rfl
        rotate_left
        · simp only [Act.put,List.setIfInBounds_toArray,List.set_cons_zero,List.set_cons_succ,i64_w,i32_w];rfl
        refine pure_ (i:=7) (N:=some 16) (v:=?_) (a':=?_) #[true,true,true,true,true,true,true,true,false,false,false,false,false,false,false,false,false,false,false] rfl rfl (by kernel_rfl) (fun _ _ _ h=>h) (Or.inl ⟨by rfl,?_⟩) ?_ ?_
        rotate_left
        · intro w';go_simp;with_reducible rfl
        rotate_left
        · simp only [Act.put,List.setIfInBounds_toArray,List.set_cons_zero,List.set_cons_succ,i64_w,i32_w];rfl
        refine take_ (i:=8) (N:=some 17) (v:=?_) (a':=?_) #[true,true,true,true,true,true,true,true,true,false,false,false,false,false,false,false,false,false,false] rfl rfl (by kernel_rfl) (fun _ _ _ h=>h) (Or.inl ⟨by rfl,?_⟩) hHeld ?_ ?_
        rotate_left
        · rintro w' s0_;have q0:=cells3 s0_;clear s0_;go_simp;with_reducible rfl
        rotate_left
        · simp only [Act.put,List.setIfInBounds_toArray,List.set_cons_zero,List.set_cons_succ,i64_w,i32_w];rfl
        refine pure_ (i:=9) (N:=some 18) (v:=?_) (a':=?_) #[true,true,true,true,true,true,true,true,true,true,false,false,false,false,false,false,false,false,false] rfl rfl (by kernel_rfl) (fun _ _ _ h=>h) (Or.inl ⟨by rfl,?_⟩) ?_ ?_
        rotate_left
        · intro w';go_simp;with_reducible rfl
        rotate_left
        · simp only [Act.put,List.setIfInBounds_toArray,List.set_cons_zero,List.set_cons_succ,i64_w,i32_w];rfl
        refine pure_ (i:=10) (N:=some 19) (v:=?_) (a':=?_) #[true,true,true,true,true,true,true,true,true,true,true,false,false,false,false,false,false,false,false] rfl rfl (by kernel_rfl) (fun _ _ _ h=>h) (Or.inl ⟨by rfl,?_⟩) ?_ ?_
        rotate_left
        · intro w';go_simp;with_reducible rfl
        rotate_left
        · simp only [Act.put,List.setIfInBounds_toArray,List.set_cons_zero,List.set_cons_succ,i64_w,i32_w];rfl
        refine pure_ (i:=11) (N:=some 20) (v:=?_) (a':=?_) #[true,true,true,true,true,true,true,true,true,true,true,true,false,false,false,false,false,false,false] rfl rfl (by kernel_rfl) (fun _ _ _ h=>h) (Or.inl ⟨by rfl,?_⟩) ?_ ?_
        rotate_left
        · intro w';go_simp;with_reducible rfl
        rotate_left
        · simp only [Act.put,List.setIfInBounds_toArray,List.set_cons_zero,List.set_cons_succ,i64_w,i32_w];rfl
        refine pure_ (i:=12) (N:=some 21) (v:=undef) (a':=?_) #[true,true,true,true,true,true,true,true,true,true,true,true,true,false,false,false,false,false,false] rfl rfl (by kernel_rfl) (fun _ _ _ h=>h) (Or.inr ⟨by rfl,rfl⟩) ?_ ?_
        rotate_left
        · simp only [Act.put,List.setIfInBounds_toArray,List.set_cons_zero,List.set_cons_succ,i64_w,i32_w];rfl
        refine pure_ (i:=13) (N:=some 22) (v:=undef) (a':=?_) #[true,true,true,true,true,true,true,true,true,true,true,true,true,true,false,false,false,false,false] rfl rfl (by kernel_rfl) (fun _ _ _ h=>h) (Or.inr ⟨by rfl,rfl⟩) ?_ ?_
        rotate_left
        · simp only [Act.put,List.setIfInBounds_toArray,List.set_cons_zero,List.set_cons_succ,i64_w,i32_w];rfl
        refine pure_ (i:=14) (N:=some 23) (v:=undef) (a':=?_) #[true,true,true,true,true,true,true,true,true,true,true,true,true,true,true,false,false,false,false] rfl rfl (by kernel_rfl) (fun _ _ _ h=>h) (Or.inr ⟨by rfl,rfl⟩) ?_ ?_
        rotate_left
        · simp only [Act.put,List.setIfInBounds_toArray,List.set_cons_zero,List.set_cons_succ,i64_w,i32_w];rfl
        refine pure_ (i:=15) (N:=some 24) (v:=undef) (a':=?_) #[true,true,true,true,true,true,true,true,true,true,true,true,true,true,true,true,false,false,false] rfl rfl (by kernel_rfl) (fun _ _ _ h=>h) (Or.inr ⟨by rfl,rfl⟩) ?_ ?_
        rotate_left
        · simp only [Act.put,List.setIfInBounds_toArray,List.set_cons_zero,List.set_cons_succ,i64_w,i32_w];rfl
        refine pure_ (i:=16) (N:=some 25) (v:=?_) (a':=?_) #[true,true,true,true,true,true,true,true,true,true,true,true,true,true,true,true,true,false,false] rfl rfl (by kernel_rfl) (fun _ _ _ h=>h) (Or.inl ⟨by rfl,?_⟩) ?_ ?_
        rotate_left
        · intro w';go_simp;with_reducible rfl
        rotate_left
        · simp only [Act.put,List.setIfInBounds_toArray,List.set_cons_zero,List.set_cons_succ,i64_w,i32_w];rfl
        refine pure_ (i:=17) (N:=some 2) (v:=?_) (a':=?_) #[true,true,true,true,true,true,true,true,true,true,true,true,true,true,true,true,true,true,false] rfl rfl (by kernel_rfl) (fun _ _ _ h=>h) (Or.inl ⟨by rfl,?_⟩) ?_ ?_
        rotate_left
        · intro w';go_simp;with_reducible rfl
        rotate_left
        · simp only [Act.put,List.setIfInBounds_toArray,List.set_cons_zero,List.set_cons_succ,i64_w,i32_w];rfl
        refine pure_ (i:=18) (N:=some 3) (v:=?_) (a':=?_) #[true,true,true,true,true,true,true,true,true,true,true,true,true,true,true,true,true,true,true] rfl rfl (by kernel_rfl) (fun _ _ _ h=>h) (Or.inl ⟨by rfl,?_⟩) ?_ ?_
        rotate_left
        · intro w';go_simp;with_reducible rfl
        rotate_left
        · simp only [Act.put,List.setIfInBounds_toArray,List.set_cons_zero,List.set_cons_succ,i64_w,i32_w];rfl
        refine done_ (by kernel_rfl) ?_
        try go_wp2
        go_ret2
        exact ⟨_,by rw [hg];rfl,(fun h=>by rw [hg] at h;cases h),by rw [ba_size];show 5 + a.f2.size ≤ _;omega,hB⟩
      | false =>
        rw [h3] at hg
        obtain ⟨c,hi⟩ : ∃ c,decide (0 ≤ Lib.indexByte a.f2.data.toList 10) = c:=⟨_,rfl⟩
        rw [Lib.index_one,hi] at hg
        go_enter Tryz.func21,Tryz.ntmps21
        go_wp2
        refine start_ (n:=19) (S:=fun w'=>w'.heap[w.heap.size]? = some (.cells #[.int .i64 a.f0,.int .i64 a.f1,.string a.f2] 35 (0,0))) (ds:=[]) #[false,false,false,false,false,false,false,false,false,false,false,false,false,false,false,false,false,false,false] (by kernel_rfl) rfl rfl (blk_drew hx.out.1) (fun hHeld=>?_)
        have hB:=below_drew hx.out.2
        generalize (w.alloc (.cells #[.int .i64 a.f0,.int .i64 a.f1,.string a.f2] 35)).drew = w1 at hB hHeld ⊢
        refine pure_ (i:=0) (N:=some 9) (v:=?_) (a':=?_) #[true,false,false,false,false,false,false,false,false,false,false,false,false,false,false,false,false,false,false] rfl rfl (by kernel_rfl) (fun _ _ _ h=>h) (Or.inl ⟨by rfl,?_⟩) ?_ ?_
        rotate_left
        · intro w';go_simp;with_reducible rfl
        rotate_left
        · simp only [Act.put,List.setIfInBounds_toArray,List.set_cons_zero,List.set_cons_succ,i64_w,i32_w];rfl
        refine take_ (i:=1) (N:=some 10) (v:=?_) (a':=?_) #[true,true,false,false,false,false,false,false,false,false,false,false,false,false,false,false,false,false,false] rfl rfl (by kernel_rfl) (fun _ _ _ h=>h) (Or.inl ⟨by rfl,?_⟩) hHeld ?_ ?_
        rotate_left
        · rintro w' s0_;have q0:=cells3 s0_;clear s0_;go_simp;with_reducible rfl
        rotate_left
        · simp only [Act.put,List.setIfInBounds_toArray,List.set_cons_zero,List.set_cons_succ,i64_w,i32_w];rfl
        refine pure_ (i:=2) (N:=some 11) (v:=?_) (a':=?_) #[true,true,true,false,false,false,false,false,false,false,false,false,false,false,false,false,false,false,false] rfl rfl (by kernel_rfl) (fun _ _ _ h=>h) (Or.inl ⟨by rfl,?_⟩) ?_ ?_
        rotate_left
        · intro w';go_simp;with_reducible rfl
        rotate_left
        · simp only [Act.put,List.setIfInBounds_toArray,List.set_cons_zero,List.set_cons_succ,i64_w,i32_w];rfl
        refine pure_ (i:=3) (N:=some 12) (v:=?_) (a':=?_) #[true,true,true,true,false,false,false,false,false,false,false,false,false,false,false,false,false,false,false] rfl rfl (by kernel_rfl) (fun _ _ _ h=>h) (Or.inl ⟨by rfl,?_⟩) ?_ ?_
        rotate_left
        · intro w';go_simp;with_reducible rfl
        rotate_left
        · simp only [Act.put,List.setIfInBounds_toArray,List.set_cons_zero,List.set_cons_succ,i64_w,i32_w];rfl
        refine take_ (i:=4) (N:=some 13) (v:=?_) (a':=?_) #[true,true,true,true,true,false,false,false,false,false,false,false,false,false,false,false,false,false,false] rfl rfl (by kernel_rfl) (fun _ _ _ h=>h) (Or.inl ⟨by rfl,?_⟩) hHeld ?_ ?_
        rotate_left
        · rintro w' s0_;have q0:=cells3 s0_;clear s0_;go_simp;with_reducible rfl
        rotate_left
        · simp only [Act.put,List.setIfInBounds_toArray,List.set_cons_zero,List.set_cons_succ,i64_w,i32_w];rfl
        refine pure_ (i:=5) (N:=some 14) (v:=?_) (a':=?_) #[true,true,true,true,true,true,false,false,false,false,false,false,false,false,false,false,false,false,false] rfl rfl (by kernel_rfl) (fun _ _ _ h=>h) (Or.inl ⟨by rfl,?_⟩) ?_ ?_
        rotate_left
        · intro w';go_simp;with_reducible rfl
        rotate_left
        · simp only [Act.put,List.setIfInBounds_toArray,List.set_cons_zero,List.set_cons_succ,i64_w,i32_w];rfl
        refine pure_ (i:=6) (N:=some 15) (v:=?_) (a':=?_) #[true,true,true,true,true,true,true,false,false,false,false,false,false,false,false,false,false,false,false] rfl rfl (by kernel_rfl) (fun _ _ _ h=>h) (Or.inl ⟨by rfl,?_⟩) ?_ ?_
        rotate_left
        · intro w';go_simp;with_reducible rfl
        rotate_left
        · simp only [Act.put,List.setIfInBounds_toArray,List.set_cons_zero,List.set_cons_succ,i64_w,i32_w];rfl
        refine pure_ (i:=7) (N:=some 16) (v:=?_) (a':=?_) #[true,true,true,true,true,true,true,true,false,false,false,false,false,false,false,false,false,false,false] rfl rfl (by kernel_rfl) (fun _ _ _ h=>h) (Or.inl ⟨by rfl,?_⟩) ?_ ?_
        rotate_left
        · intro w';go_simp;with_reducible rfl
        rotate_left
        · simp only [Act.put,List.setIfInBounds_toArray,List.set_cons_zero,List.set_cons_succ,i64_w,i32_w];rfl
        refine take_ (i:=8) (N:=some 17) (v:=?_) (a':=?_) #[true,true,true,true,true,true,true,true,true,false,false,false,false,false,false,false,false,false,false] rfl rfl (by kernel_rfl) (fun _ _ _ h=>h) (Or.inl ⟨by rfl,?_⟩) hHeld ?_ ?_
        rotate_left
        · rintro w' s0_;have q0:=cells3 s0_;clear s0_;go_simp;with_reducible rfl
        rotate_left
        · simp only [Act.put,List.setIfInBounds_toArray,List.set_cons_zero,List.set_cons_succ,i64_w,i32_w];rfl
        refine pure_ (i:=9) (N:=some 18) (v:=?_) (a':=?_) #[true,true,true,true,true,true,true,true,true,true,false,false,false,false,false,false,false,false,false] rfl rfl (by kernel_rfl) (fun _ _ _ h=>h) (Or.inl ⟨by rfl,?_⟩) ?_ ?_
        rotate_left
        · intro w';go_simp;with_reducible rfl
        rotate_left
        · simp only [Act.put,List.setIfInBounds_toArray,List.set_cons_zero,List.set_cons_succ,i64_w,i32_w];rfl
        refine pure_ (i:=10) (N:=some 19) (v:=?_) (a':=?_) #[true,true,true,true,true,true,true,true,true,true,true,false,false,false,false,false,false,false,false] rfl rfl (by kernel_rfl) (fun _ _ _ h=>h) (Or.inl ⟨by rfl,?_⟩) ?_ ?_
        rotate_left
        · intro w';go_simp;with_reducible rfl
        rotate_left
        · simp only [Act.put,List.setIfInBounds_toArray,List.set_cons_zero,List.set_cons_succ,i64_w,i32_w];rfl
        refine pure_ (i:=11) (N:=some 20) (v:=?_) (a':=?_) #[true,true,true,true,true,true,true,true,true,true,true,true,false,false,false,false,false,false,false] rfl rfl (by kernel_rfl) (fun _ _ _ h=>h) (Or.inl ⟨by rfl,?_⟩) ?_ ?_
        rotate_left
        · intro w';go_simp;with_reducible rfl
        rotate_left
        · simp only [Act.put,List.setIfInBounds_toArray,List.set_cons_zero,List.set_cons_succ,i64_w,i32_w];rfl
        refine pure_ (i:=12) (N:=some 21) (v:=?_) (a':=?_) #[true,true,true,true,true,true,true,true,true,true,true,true,true,false,false,false,false,false,false] rfl rfl (by kernel_rfl) (fun _ _ _ h=>h) (Or.inl ⟨by rfl,?_⟩) ?_ ?_
        rotate_left
        · intro w';go_simp;with_reducible rfl
        rotate_left
        · simp only [Act.put,List.setIfInBounds_toArray,List.set_cons_zero,List.set_cons_succ,i64_w,i32_w];rfl
        refine take_ (i:=13) (N:=some 22) (v:=?_) (a':=?_) #[true,true,true,true,true,true,true,true,true,true,true,true,true,true,false,false,false,false,false] rfl rfl (by kernel_rfl) (fun _ _ _ h=>h) (Or.inl ⟨by rfl,?_⟩) hHeld ?_ ?_
        rotate_left
        · rintro w' s0_;have q0:=cells3 s0_;clear s0_;go_simp;with_reducible rfl
        rotate_left
        · simp only [Act.put,List.setIfInBounds_toArray,List.set_cons_zero,List.set_cons_succ,i64_w,i32_w];rfl
        refine one_ (i:=14) (N:=some 23) #[true,true,true,true,true,true,true,true,true,true,true,true,true,true,true,false,false,false,false] rfl rfl (by kernel_rfl) (by decide) (fun K hK=>?_)
        refine goes_ Tryz.func40 (by kernel_rfl) rfl #[.string a.f2,.string ⟨#[10]⟩] (by rfl) rfl rfl (by first | (go_simp;done) | (go_simp;rfl)) ?_
        refine (Tryz.strings_Contains_one a.f2 10 _).mono ?_
        rw [hi]
        rintro e w2 ⟨rfl,rfl⟩
        refine ⟨_,rfl,?_⟩
        refine hK.out _ _ (hHeld) (fun hHeld=>?_)
        clear hK K
        refine norm_ (a':=?_) ?_ ?_
        rotate_left
        · show Act.put _ (some 23) _ = _
          simp only [Act.put,List.setIfInBounds_toArray,List.set_cons_zero,List.set_cons_succ,i64_w,i32_w];rfl
        refine pure_ (i:=15) (N:=some 24) (v:=?_) (a':=?_) #[true,true,true,true,true,true,true,true,true,true,true,true,true,true,true,true,false,false,false] rfl rfl (by kernel_rfl) (fun _ _ _ h=>h) (Or.inl ⟨by rfl,?_⟩) ?_ ?_
        rotate_left
        · intro w';go_simp;with_reducible rfl
        rotate_left
        · simp only [Act.put,List.setIfInBounds_toArray,List.set_cons_zero,List.set_cons_succ,i64_w,i32_w];rfl
        refine pure_ (i:=16) (N:=some 25) (v:=?_) (a':=?_) #[true,true,true,true,true,true,true,true,true,true,true,true,true,true,true,true,true,false,false] rfl rfl (by kernel_rfl) (fun _ _ _ h=>h) (Or.inl ⟨by rfl,?_⟩) ?_ ?_
        rotate_left
        · intro w';go_simp;with_reducible rfl
        rotate_left
        · simp only [Act.put,List.setIfInBounds_toArray,List.set_cons_zero,List.set_cons_succ,i64_w,i32_w];rfl
        refine pure_ (i:=17) (N:=some 2) (v:=?_) (a':=?_) #[true,true,true,true,true,true,true,true,true,true,true,true,true,true,true,true,true,true,false] rfl rfl (by kernel_rfl) (fun _ _ _ h=>h) (Or.inl ⟨by rfl,?_⟩) ?_ ?_
        rotate_left
        · intro w';go_simp;with_reducible rfl
        rotate_left
        · simp only [Act.put,List.setIfInBounds_toArray,List.set_cons_zero,List.set_cons_succ,i64_w,i32_w];rfl
        refine pure_ (i:=18) (N:=some 3) (v:=?_) (a':=?_) #[true,true,true,true,true,true,true,true,true,true,true,true,true,true,true,true,true,true,true] rfl rfl (by kernel_rfl) (fun _ _ _ h=>h) (Or.inl ⟨by rfl,?_⟩) ?_ ?_
        rotate_left
        · intro w';go_simp;with_reducible rfl
        rotate_left
        · simp only [Act.put,List.setIfInBounds_toArray,List.set_cons_zero,List.set_cons_succ,i64_w,i32_w];rfl
        refine done_ (by kernel_rfl) ?_
        try go_wp2
        go_ret2
        exact ⟨_,by rw [hg];cases c <;> rfl,fun h=>by rw [hl.out,ba_append];rfl,by rw [ba_size];show 5 + a.f2.size ≤ _;omega,hB⟩
    · have k2 : (a.f1 == 0) = false:=by simpa using h2
      rw [decide_eq_false h2] at hg
      clear h2
      go_enter Tryz.func21,Tryz.ntmps21
      go_wp2
      refine start_ (n:=19) (S:=fun w'=>w'.heap[w.heap.size]? = some (.cells #[.int .i64 a.f0,.int .i64 a.f1,.string a.f2] 35 (0,0))) (ds:=[]) #[false,false,false,false,false,false,false,false,false,false,false,false,false,false,false,false,false,false,false] (by kernel_rfl) rfl rfl (blk_drew hx.out.1) (fun hHeld=>?_)
      have hB:=below_drew hx.out.2
      generalize (w.alloc (.cells #[.int .i64 a.f0,.int .i64 a.f1,.string a.f2] 35)).drew = w1 at hB hHeld ⊢
      refine pure_ (i:=0) (N:=some 9) (v:=?_) (a':=?_) #[true,false,false,false,false,false,false,false,false,false,false,false,false,false,false,false,false,false,false] rfl rfl (by kernel_rfl) (fun _ _ _ h=>h) (Or.inl ⟨by rfl,?_⟩) ?_ ?_
      rotate_left
      · intro w';go_simp;with_reducible rfl
      rotate_left
      · simp only [Act.put,List.setIfInBounds_toArray,List.set_cons_zero,List.set_cons_succ,i64_w,i32_w];rfl
      refine take_ (i:=1) (N:=some 10) (v:=?_) (a':=?_) #[true,true,false,false,false,false,false,false,false,false,false,false,false,false,false,false,false,false,false] rfl rfl (by kernel_rfl) (fun _ _ _ h=>h) (Or.inl ⟨by rfl,?_⟩) hHeld ?_ ?_
      rotate_left
      · rintro w' s0_;have q0:=cells3 s0_;clear s0_;go_simp;with_reducible rfl
      rotate_left
      · simp only [Act.put,List.setIfInBounds_toArray,List.set_cons_zero,List.set_cons_succ,i64_w,i32_w];rfl
      refine pure_ (i:=2) (N:=some 11) (v:=?_) (a':=?_) #[true,true,true,false,false,false,false,false,false,false,false,false,false,false,false,false,false,false,false] rfl rfl (by kernel_rfl) (fun _ _ _ h=>h) (Or.inl ⟨by rfl,?_⟩) ?_ ?_
      rotate_left
      · intro w';go_simp;with_reducible rfl
      rotate_left
      · simp only [Act.put,List.setIfInBounds_toArray,List.set_cons_zero,List.set_cons_succ,i64_w,i32_w];rfl
      refine pure_ (i:=3) (N:=some 12) (v:=?_) (a':=?_) #[true,true,true,true,false,false,false,false,false,false,false,false,false,false,false,false,false,false,false] rfl rfl (by kernel_rfl) (fun _ _ _ h=>h) (Or.inl ⟨by rfl,?_⟩) ?_ ?_
      rotate_left
      · intro w';go_simp;with_reducible rfl
      rotate_left
      · simp only [Act.put,List.setIfInBounds_toArray,List.set_cons_zero,List.set_cons_succ,i64_w,i32_w];rfl
      refine take_ (i:=4) (N:=some 13) (v:=?_) (a':=?_) #[true,true,true,true,true,false,false,false,false,false,false,false,false,false,false,false,false,false,false] rfl rfl (by kernel_rfl) (fun _ _ _ h=>h) (Or.inl ⟨by rfl,?_⟩) hHeld ?_ ?_
      rotate_left
      · rintro w' s0_;have q0:=cells3 s0_;clear s0_;go_simp;with_reducible rfl
      rotate_left
      · simp only [Act.put,List.setIfInBounds_toArray,List.set_cons_zero,List.set_cons_succ,i64_w,i32_w];rfl
      refine pure_ (i:=5) (N:=some 14) (v:=?_) (a':=?_) #[true,true,true,true,true,true,false,false,false,false,false,false,false,false,false,false,false,false,false] rfl rfl (by kernel_rfl) (fun _ _ _ h=>h) (Or.inl ⟨by rfl,?_⟩) ?_ ?_
      rotate_left
      · intro w';go_simp;with_reducible rfl
      rotate_left
      · simp only [Act.put,List.setIfInBounds_toArray,List.set_cons_zero,List.set_cons_succ,i64_w,i32_w];rfl
      refine pure_ (i:=6) (N:=some 15) (v:=?_) (a':=?_) #[true,true,true,true,true,true,true,false,false,false,false,false,false,false,false,false,false,false,false] rfl rfl (by kernel_rfl) (fun _ _ _ h=>h) (Or.inl ⟨by rfl,?_⟩) ?_ ?_
      rotate_left
      · intro w';go_simp;with_reducible rfl
      rotate_left
      · simp only [Act.put,List.setIfInBounds_toArray,List.set_cons_zero,List.set_cons_succ,i64_w,i32_w];rfl
      refine pure_ (i:=7) (N:=some 16) (v:=undef) (a':=?_) #[true,true,true,true,true,true,true,true,false,false,false,false,false,false,false,false,false,false,false] rfl rfl (by kernel_rfl) (fun _ _ _ h=>h) (Or.inr ⟨by rfl,rfl⟩) ?_ ?_
      rotate_left
      · simp only [Act.put,List.setIfInBounds_toArray,List.set_cons_zero,List.set_cons_succ,i64_w,i32_w];rfl
      refine pure_ (i:=8) (N:=some 17) (v:=undef) (a':=?_) #[true,true,true,true,true,true,true,true,true,false,false,false,false,false,false,false,false,false,false] rfl rfl (by kernel_rfl) (fun _ _ _ h=>h) (Or.inr ⟨by rfl,rfl⟩) ?_ ?_
      rotate_left
      · simp only [Act.put,List.setIfInBounds_toArray,List.set_cons_zero,List.set_cons_succ,i64_w,i32_w];rfl
      refine pure_ (i:=9) (N:=some 18) (v:=undef) (a':=?_) #[true,true,true,true,true,true,true,true,true,true,false,false,false,false,false,false,false,false,false] rfl rfl (by kernel_rfl) (fun _ _ _ h=>h) (Or.inr ⟨by rfl,rfl⟩) ?_ ?_
      rotate_left
      · simp only [Act.put,List.setIfInBounds_toArray,List.set_cons_zero,List.set_cons_succ,i64_w,i32_w];rfl
      refine pure_ (i:=10) (N:=some 19) (v:=?_) (a':=?_) #[true,true,true,true,true,true,true,true,true,true,true,false,false,false,false,false,false,false,false] rfl rfl (by kernel_rfl) (fun _ _ _ h=>h) (Or.inl ⟨by rfl,?_⟩) ?_ ?_
      rotate_left
      · intro w';go_simp;with_reducible rfl
      rotate_left
      · simp only [Act.put,List.setIfInBounds_toArray,List.set_cons_zero,List.set_cons_succ,i64_w,i32_w];rfl
      refine pure_ (i:=11) (N:=some 20) (v:=?_) (a':=?_) #[true,true,true,true,true,true,true,true,true,true,true,true,false,false,false,false,false,false,false] rfl rfl (by kernel_rfl) (fun _ _ _ h=>h) (Or.inl ⟨by rfl,?_⟩) ?_ ?_
      rotate_left
      · intro w';go_simp;with_reducible rfl
      rotate_left
      · simp only [Act.put,List.setIfInBounds_toArray,List.set_cons_zero,List.set_cons_succ,i64_w,i32_w];rfl
      refine pure_ (i:=12) (N:=some 21) (v:=undef) (a':=?_) #[true,true,true,true,true,true,true,true,true,true,true,true,true,false,false,false,false,false,false] rfl rfl (by kernel_rfl) (fun _ _ _ h=>h) (Or.inr ⟨by rfl,rfl⟩) ?_ ?_
      rotate_left
      · simp only [Act.put,List.setIfInBounds_toArray,List.set_cons_zero,List.set_cons_succ,i64_w,i32_w];rfl
      refine pure_ (i:=13) (N:=some 22) (v:=undef) (a':=?_) #[true,true,true,true,true,true,true,true,true,true,true,true,true,true,false,false,false,false,false] rfl rfl (by kernel_rfl) (fun _ _ _ h=>h) (Or.inr ⟨by rfl,rfl⟩) ?_ ?_
      rotate_left
      · simp only [Act.put,List.setIfInBounds_toArray,List.set_cons_zero,List.set_cons_succ,i64_w,i32_w];rfl
      refine pure_ (i:=14) (N:=some 23) (v:=undef) (a':=?_) #[true,true,true,true,true,true,true,true,true,true,true,true,true,true,true,false,false,false,false] rfl rfl (by kernel_rfl) (fun _ _ _ h=>h) (Or.inr ⟨by rfl,rfl⟩) ?_ ?_
      rotate_left
      · simp only [Act.put,List.setIfInBounds_toArray,List.set_cons_zero,List.set_cons_succ,i64_w,i32_w];rfl
      refine pure_ (i:=15) (N:=some 24) (v:=undef) (a':=?_) #[true,true,true,true,true,true,true,true,true,true,true,true,true,true,true,true,false,false,false] rfl rfl (by kernel_rfl) (fun _ _ _ h=>h) (Or.inr ⟨by rfl,rfl⟩) ?_ ?_
      rotate_left
      · simp only [Act.put,List.setIfInBounds_toArray,List.set_cons_zero,List.set_cons_succ,i64_w,i32_w];rfl
      refine pure_ (i:=16) (N:=some 25) (v:=?_) (a':=?_) #[true,true,true,true,true,true,true,true,true,true,true,true,true,true,true,true,true,false,false] rfl rfl (by kernel_rfl) (fun _ _ _ h=>h) (Or.inl ⟨by rfl,?_⟩) ?_ ?_
      rotate_left
      · intro w';go_simp;with_reducible rfl
      rotate_left
      · simp only [Act.put,List.setIfInBounds_toArray,List.set_cons_zero,List.set_cons_succ,i64_w,i32_w];rfl
      refine pure_ (i:=17) (N:=some 2) (v:=?_) (a':=?_) #[true,true,true,true,true,true,true,true,true,true,true,true,true,true,true,true,true,true,false] rfl rfl (by kernel_rfl) (fun _ _ _ h=>h) (Or.inl ⟨by rfl,?_⟩) ?_ ?_
      rotate_left
      · intro w';go_simp;with_reducible rfl
      rotate_left
      · simp only [Act.put,List.setIfInBounds_toArray,List.set_cons_zero,List.set_cons_succ,i64_w,i32_w];rfl
      refine pure_ (i:=18) (N:=some 3) (v:=?_) (a':=?_) #[true,true,true,true,true,true,true,true,true,true,true,true,true,true,true,true,true,true,true] rfl rfl (by kernel_rfl) (fun _ _ _ h=>h) (Or.inl ⟨by rfl,?_⟩) ?_ ?_
      rotate_left
      · intro w';go_simp;with_reducible rfl
      rotate_left
      · simp only [Act.put,List.setIfInBounds_toArray,List.set_cons_zero,List.set_cons_succ,i64_w,i32_w];rfl
      refine done_ (by kernel_rfl) ?_
      try go_wp2
      go_ret2
      exact ⟨_,by rw [hg];rfl,(fun h=>by rw [hg] at h;cases h),by rw [ba_size];show 5 + a.f2.size ≤ _;omega,hB⟩
  have k1 : (a.f0 == 1) = false:=by simpa using h1
  by_cases h3 : a.f0 = 3
  · have k3 : (a.f0 == 3) = true:=by rw [h3];rfl
    have hg : goodA a = (decide (0 ≤ a.f1) && a.f2.toList.isEmpty):=by unfold goodA;rw [if_neg h1,if_pos h3]
    have hl : lineL a = mvL ++ Lib.itoa a.f1:=by unfold lineL;rw [if_neg h1,if_pos h3]
    replace hl:=Lib.hid hl
    have hds:=Lib.hid (dec_small hr.1 hr.2)
    have big : ¬ (9223372036854775807 < 5 + (⟨(Lib.itoa a.f1).toArray⟩ : ByteArray).size):=by show ¬ (9223372036854775807 < 5 + (Lib.itoa a.f1).toArray.size);rw [List.size_toArray];have:=hds.out;omega
    have big2 : ¬ (9223372036854775807 < 5 + (Lib.itoa a.f1).length):=by have:=hds.out;omega
    clear h1 h3
    by_cases h2 : 0 ≤ a.f1
    · have k2 : decide (0 ≤ a.f1) = true:=decide_eq_true h2
      have k2b : decide (a.f1 ≥ 0) = true:=decide_eq_true h2
      rw [k2,Bool.true_and] at hg
      clear h2
      go_enter Tryz.func21,Tryz.ntmps21
      go_wp2
      refine start_ (n:=14) (S:=fun w'=>w'.heap[w.heap.size]? = some (.cells #[.int .i64 a.f0,.int .i64 a.f1,.string a.f2] 35 (0,0))) (ds:=[]) #[false,false,false,false,false,false,false,false,false,false,false,false,false,false] (by kernel_rfl) rfl rfl (blk_drew hx.out.1) (fun hHeld=>?_)
      have hB:=below_drew hx.out.2
      generalize (w.alloc (.cells #[.int .i64 a.f0,.int .i64 a.f1,.string a.f2] 35)).drew = w1 at hB hHeld ⊢
      refine pure_ (i:=0) (N:=some 30) (v:=?_) (a':=?_) #[true,false,false,false,false,false,false,false,false,false,false,false,false,false] rfl rfl (by kernel_rfl) (fun _ _ _ h=>h) (Or.inl ⟨by rfl,?_⟩) ?_ ?_
      rotate_left
      · intro w';go_simp;with_reducible rfl
      rotate_left
      · simp only [Act.put,List.setIfInBounds_toArray,List.set_cons_zero,List.set_cons_succ,i64_w,i32_w];rfl
      refine take_ (i:=1) (N:=some 31) (v:=?_) (a':=?_) #[true,true,false,false,false,false,false,false,false,false,false,false,false,false] rfl rfl (by kernel_rfl) (fun _ _ _ h=>h) (Or.inl ⟨by rfl,?_⟩) hHeld ?_ ?_
      rotate_left
      · rintro w' s0_;have q0:=cells3 s0_;clear s0_;go_simp;with_reducible rfl
      rotate_left
      · simp only [Act.put,List.setIfInBounds_toArray,List.set_cons_zero,List.set_cons_succ,i64_w,i32_w];rfl
      refine pure_ (i:=4) (N:=some 34) (v:=?_) (a':=?_) #[true,true,false,false,true,false,false,false,false,false,false,false,false,false] rfl rfl (by kernel_rfl) (fun _ _ _ h=>h) (Or.inl ⟨by rfl,?_⟩) ?_ ?_
      rotate_left
      · intro w';go_simp;with_reducible rfl
      rotate_left
      · simp only [Act.put,List.setIfInBounds_toArray,List.set_cons_zero,List.set_cons_succ,i64_w,i32_w];rfl
      refine take_ (i:=5) (N:=some 35) (v:=?_) (a':=?_) #[true,true,false,false,true,true,false,false,false,false,false,false,false,false] rfl rfl (by kernel_rfl) (fun _ _ _ h=>h) (Or.inl ⟨by rfl,?_⟩) hHeld ?_ ?_
      rotate_left
      · rintro w' s0_;have q0:=cells3 s0_;clear s0_;go_simp;with_reducible rfl
      rotate_left
      · simp only [Act.put,List.setIfInBounds_toArray,List.set_cons_zero,List.set_cons_succ,i64_w,i32_w];rfl
      refine pure_ (i:=6) (N:=some 36) (v:=?_) (a':=?_) #[true,true,false,false,true,true,true,false,false,false,false,false,false,false] rfl rfl (by kernel_rfl) (fun _ _ _ h=>h) (Or.inl ⟨by rfl,?_⟩) ?_ ?_
      rotate_left
      · intro w';go_simp;with_reducible rfl
      rotate_left
      · simp only [Act.put,List.setIfInBounds_toArray,List.set_cons_zero,List.set_cons_succ,i64_w,i32_w];rfl
      refine one_ (i:=2) (N:=some 32) #[true,true,true,false,true,true,true,false,false,false,false,false,false,false] rfl rfl (by kernel_rfl) (by decide) (fun K hK=>?_)
      refine goes_ Tryz.func41 (by kernel_rfl) rfl #[.int .i64 a.f1] (by rfl) rfl rfl (by first | (go_simp;done) | (go_simp;rfl)) ?_
      refine (Tryz.strconv_Itoa a.f1 hr.1 hr.2 _ (tabs_below hT hB).p).mono ?_
      rintro e w2 ⟨rfl,kk,os,hw2⟩
      refine ⟨_,rfl,?_⟩
      have hb : Below w1.heap.size w1 w2:=by rw [hw2];exact Lib.below_grow _ _ (Nat.le_refl _) _ _
      clear hw2
      have hB2:=below_step hB hb
      have hH2:=blk_below hHeld hb
      clear hb
      refine hK.out _ _ (hH2) (fun hHeld=>?_)
      clear hK K
      refine norm_ (a':=?_) ?_ ?_
      rotate_left
      · show Act.put _ (some 32) _ = _
        simp only [Act.put,List.setIfInBounds_toArray,List.set_cons_zero,List.set_cons_succ,i64_w,i32_w];rfl
      refine pure_ (i:=3) (N:=some 33) (v:=?_) (a':=?_) #[true,true,true,true,true,true,true,false,false,false,false,false,false,false] rfl rfl (by kernel_rfl) (fun _ _ _ h=>h) (Or.inl ⟨by rfl,?_⟩) ?_ ?_
      rotate_left
      · intro w';go_simp;with_reducible rfl
      rotate_left
      · simp only [Act.put,List.setIfInBounds_toArray,List.set_cons_zero,List.set_cons_succ,i64_w,i32_w];rfl
      refine pure_ (i:=7) (N:=some 37) (v:=?_) (a':=?_) #[true,true,true,true,true,true,true,true,false,false,false,false,false,false] rfl rfl (by kernel_rfl) (fun _ _ _ h=>h) (Or.inl ⟨by rfl,?_⟩) ?_ ?_
      rotate_left
      · intro w';go_simp;with_reducible rfl
      rotate_left
      · simp only [Act.put,List.setIfInBounds_toArray,List.set_cons_zero,List.set_cons_succ,i64_w,i32_w];rfl
      refine pure_ (i:=8) (N:=some 38) (v:=?_) (a':=?_) #[true,true,true,true,true,true,true,true,true,false,false,false,false,false] rfl rfl (by kernel_rfl) (fun _ _ _ h=>h) (Or.inl ⟨by rfl,?_⟩) ?_ ?_
      rotate_left
      · intro w';go_simp;with_reducible rfl
      rotate_left
      · simp only [Act.put,List.setIfInBounds_toArray,List.set_cons_zero,List.set_cons_succ,i64_w,i32_w];rfl
      refine take_ (i:=9) (N:=some 39) (v:=?_) (a':=?_) #[true,true,true,true,true,true,true,true,true,true,false,false,false,false] rfl rfl (by kernel_rfl) (fun _ _ _ h=>h) (Or.inl ⟨by rfl,?_⟩) hHeld ?_ ?_
      rotate_left
      · rintro w' s0_;have q0:=cells3 s0_;clear s0_;go_simp;with_reducible rfl
      rotate_left
      · simp only [Act.put,List.setIfInBounds_toArray,List.set_cons_zero,List.set_cons_succ,i64_w,i32_w];rfl
      refine pure_ (i:=10) (N:=some 40) (v:=?_) (a':=?_) #[true,true,true,true,true,true,true,true,true,true,true,false,false,false] rfl rfl (by kernel_rfl) (fun _ _ _ h=>h) (Or.inl ⟨by rfl,?_⟩) ?_ ?_
      rotate_left
      · intro w';go_simp;with_reducible rfl
      rotate_left
      · simp only [Act.put,List.setIfInBounds_toArray,List.set_cons_zero,List.set_cons_succ,i64_w,i32_w];rfl
      refine pure_ (i:=11) (N:=some 41) (v:=?_) (a':=?_) #[true,true,true,true,true,true,true,true,true,true,true,true,false,false] rfl rfl (by kernel_rfl) (fun _ _ _ h=>h) (Or.inl ⟨by rfl,?_⟩) ?_ ?_
      rotate_left
      · intro w';go_simp;with_reducible rfl
      rotate_left
      · simp only [Act.put,List.setIfInBounds_toArray,List.set_cons_zero,List.set_cons_succ,i64_w,i32_w];rfl
      refine pure_ (i:=12) (N:=some 2) (v:=?_) (a':=?_) #[true,true,true,true,true,true,true,true,true,true,true,true,true,false] rfl rfl (by kernel_rfl) (fun _ _ _ h=>h) (Or.inl ⟨by rfl,?_⟩) ?_ ?_
      rotate_left
      · intro w';go_simp;with_reducible rfl
      rotate_left
      · simp only [Act.put,List.setIfInBounds_toArray,List.set_cons_zero,List.set_cons_succ,i64_w,i32_w];rfl
      refine pure_ (i:=13) (N:=some 3) (v:=?_) (a':=?_) #[true,true,true,true,true,true,true,true,true,true,true,true,true,true] rfl rfl (by kernel_rfl) (fun _ _ _ h=>h) (Or.inl ⟨by rfl,?_⟩) ?_ ?_
      rotate_left
      · intro w';go_simp;with_reducible rfl
      rotate_left
      · simp only [Act.put,List.setIfInBounds_toArray,List.set_cons_zero,List.set_cons_succ,i64_w,i32_w];rfl
      refine done_ (by kernel_rfl) ?_
      try go_wp2
      go_ret2
      exact ⟨_,by rw [hg];rfl,fun h=>by rw [hl.out,ba_append];rfl,by rw [ba_size];show 5 + (Lib.itoa a.f1).toArray.size ≤ _;rw [List.size_toArray];have:=hds.out;omega,hB2⟩
    · have k2 : decide (0 ≤ a.f1) = false:=decide_eq_false h2
      have k2b : decide (a.f1 ≥ 0) = false:=decide_eq_false h2
      rw [k2,Bool.false_and] at hg
      clear h2
      go_enter Tryz.func21,Tryz.ntmps21
      go_wp2
      refine start_ (n:=14) (S:=fun w'=>w'.heap[w.heap.size]? = some (.cells #[.int .i64 a.f0,.int .i64 a.f1,.string a.f2] 35 (0,0))) (ds:=[]) #[false,false,false,false,false,false,false,false,false,false,false,false,false,false] (by kernel_rfl) rfl rfl (blk_drew hx.out.1) (fun hHeld=>?_)
      have hB:=below_drew hx.out.2
      generalize (w.alloc (.cells #[.int .i64 a.f0,.int .i64 a.f1,.string a.f2] 35)).drew = w1 at hB hHeld ⊢
      refine pure_ (i:=0) (N:=some 30) (v:=?_) (a':=?_) #[true,false,false,false,false,false,false,false,false,false,false,false,false,false] rfl rfl (by kernel_rfl) (fun _ _ _ h=>h) (Or.inl ⟨by rfl,?_⟩) ?_ ?_
      rotate_left
      · intro w';go_simp;with_reducible rfl
      rotate_left
      · simp only [Act.put,List.setIfInBounds_toArray,List.set_cons_zero,List.set_cons_succ,i64_w,i32_w];rfl
      refine take_ (i:=1) (N:=some 31) (v:=?_) (a':=?_) #[true,true,false,false,false,false,false,false,false,false,false,false,false,false] rfl rfl (by kernel_rfl) (fun _ _ _ h=>h) (Or.inl ⟨by rfl,?_⟩) hHeld ?_ ?_
      rotate_left
      · rintro w' s0_;have q0:=cells3 s0_;clear s0_;go_simp;with_reducible rfl
      rotate_left
      · simp only [Act.put,List.setIfInBounds_toArray,List.set_cons_zero,List.set_cons_succ,i64_w,i32_w];rfl
      refine pure_ (i:=4) (N:=some 34) (v:=?_) (a':=?_) #[true,true,false,false,true,false,false,false,false,false,false,false,false,false] rfl rfl (by kernel_rfl) (fun _ _ _ h=>h) (Or.inl ⟨by rfl,?_⟩) ?_ ?_
      rotate_left
      · intro w';go_simp;with_reducible rfl
      rotate_left
      · simp only [Act.put,List.setIfInBounds_toArray,List.set_cons_zero,List.set_cons_succ,i64_w,i32_w];rfl
      refine take_ (i:=5) (N:=some 35) (v:=?_) (a':=?_) #[true,true,false,false,true,true,false,false,false,false,false,false,false,false] rfl rfl (by kernel_rfl) (fun _ _ _ h=>h) (Or.inl ⟨by rfl,?_⟩) hHeld ?_ ?_
      rotate_left
      · rintro w' s0_;have q0:=cells3 s0_;clear s0_;go_simp;with_reducible rfl
      rotate_left
      · simp only [Act.put,List.setIfInBounds_toArray,List.set_cons_zero,List.set_cons_succ,i64_w,i32_w];rfl
      refine pure_ (i:=6) (N:=some 36) (v:=?_) (a':=?_) #[true,true,false,false,true,true,true,false,false,false,false,false,false,false] rfl rfl (by kernel_rfl) (fun _ _ _ h=>h) (Or.inl ⟨by rfl,?_⟩) ?_ ?_
      rotate_left
      · intro w';go_simp;with_reducible rfl
      rotate_left
      · simp only [Act.put,List.setIfInBounds_toArray,List.set_cons_zero,List.set_cons_succ,i64_w,i32_w];rfl
      refine one_ (i:=2) (N:=some 32) #[true,true,true,false,true,true,true,false,false,false,false,false,false,false] rfl rfl (by kernel_rfl) (by decide) (fun K hK=>?_)
      refine goes_ Tryz.func41 (by kernel_rfl) rfl #[.int .i64 a.f1] (by rfl) rfl rfl (by first | (go_simp;done) | (go_simp;rfl)) ?_
      refine (Tryz.strconv_Itoa a.f1 hr.1 hr.2 _ (tabs_below hT hB).p).mono ?_
      rintro e w2 ⟨rfl,kk,os,hw2⟩
      refine ⟨_,rfl,?_⟩
      have hb : Below w1.heap.size w1 w2:=by rw [hw2];exact Lib.below_grow _ _ (Nat.le_refl _) _ _
      clear hw2
      have hB2:=below_step hB hb
      have hH2:=blk_below hHeld hb
      clear hb
      refine hK.out _ _ (hH2) (fun hHeld=>?_)
      clear hK K
      refine norm_ (a':=?_) ?_ ?_
      rotate_left
      · show Act.put _ (some 32) _ = _
        simp only [Act.put,List.setIfInBounds_toArray,List.set_cons_zero,List.set_cons_succ,i64_w,i32_w];rfl
      refine pure_ (i:=3) (N:=some 33) (v:=?_) (a':=?_) #[true,true,true,true,true,true,true,false,false,false,false,false,false,false] rfl rfl (by kernel_rfl) (fun _ _ _ h=>h) (Or.inl ⟨by rfl,?_⟩) ?_ ?_
      rotate_left
      · intro w';go_simp;with_reducible rfl
      rotate_left
      · simp only [Act.put,List.setIfInBounds_toArray,List.set_cons_zero,List.set_cons_succ,i64_w,i32_w];rfl
      refine pure_ (i:=7) (N:=some 37) (v:=?_) (a':=?_) #[true,true,true,true,true,true,true,true,false,false,false,false,false,false] rfl rfl (by kernel_rfl) (fun _ _ _ h=>h) (Or.inl ⟨by rfl,?_⟩) ?_ ?_
      rotate_left
      · intro w';go_simp;with_reducible rfl
      rotate_left
      · simp only [Act.put,List.setIfInBounds_toArray,List.set_cons_zero,List.set_cons_succ,i64_w,i32_w];rfl
      refine pure_ (i:=8) (N:=some 38) (v:=undef) (a':=?_) #[true,true,true,true,true,true,true,true,true,false,false,false,false,false] rfl rfl (by kernel_rfl) (fun _ _ _ h=>h) (Or.inr ⟨by rfl,rfl⟩) ?_ ?_
      rotate_left
      · simp only [Act.put,List.setIfInBounds_toArray,List.set_cons_zero,List.set_cons_succ,i64_w,i32_w];rfl
      refine pure_ (i:=9) (N:=some 39) (v:=undef) (a':=?_) #[true,true,true,true,true,true,true,true,true,true,false,false,false,false] rfl rfl (by kernel_rfl) (fun _ _ _ h=>h) (Or.inr ⟨by rfl,rfl⟩) ?_ ?_
      rotate_left
      · simp only [Act.put,List.setIfInBounds_toArray,List.set_cons_zero,List.set_cons_succ,i64_w,i32_w];rfl
      refine pure_ (i:=10) (N:=some 40) (v:=undef) (a':=?_) #[true,true,true,true,true,true,true,true,true,true,true,false,false,false] rfl rfl (by kernel_rfl) (fun _ _ _ h=>h) (Or.inr ⟨by rfl,rfl⟩) ?_ ?_
      rotate_left
      · simp only [Act.put,List.setIfInBounds_toArray,List.set_cons_zero,List.set_cons_succ,i64_w,i32_w];rfl
      refine pure_ (i:=11) (N:=some 41) (v:=?_) (a':=?_) #[true,true,true,true,true,true,true,true,true,true,true,true,false,false] rfl rfl (by kernel_rfl) (fun _ _ _ h=>h) (Or.inl ⟨by rfl,?_⟩) ?_ ?_
      rotate_left
      · intro w';go_simp;with_reducible rfl
      rotate_left
      · simp only [Act.put,List.setIfInBounds_toArray,List.set_cons_zero,List.set_cons_succ,i64_w,i32_w];rfl
      refine pure_ (i:=12) (N:=some 2) (v:=?_) (a':=?_) #[true,true,true,true,true,true,true,true,true,true,true,true,true,false] rfl rfl (by kernel_rfl) (fun _ _ _ h=>h) (Or.inl ⟨by rfl,?_⟩) ?_ ?_
      rotate_left
      · intro w';go_simp;with_reducible rfl
      rotate_left
      · simp only [Act.put,List.setIfInBounds_toArray,List.set_cons_zero,List.set_cons_succ,i64_w,i32_w];rfl
      refine pure_ (i:=13) (N:=some 3) (v:=?_) (a':=?_) #[true,true,true,true,true,true,true,true,true,true,true,true,true,true] rfl rfl (by kernel_rfl) (fun _ _ _ h=>h) (Or.inl ⟨by rfl,?_⟩) ?_ ?_
      rotate_left
      · intro w';go_simp;with_reducible rfl
      rotate_left
      · simp only [Act.put,List.setIfInBounds_toArray,List.set_cons_zero,List.set_cons_succ,i64_w,i32_w];rfl
      refine done_ (by kernel_rfl) ?_
      try go_wp2
      go_ret2
      exact ⟨_,by rw [hg];rfl,(fun h=>by rw [hg] at h;cases h),by rw [ba_size];show 5 + (Lib.itoa a.f1).toArray.size ≤ _;rw [List.size_toArray];have:=hds.out;omega,hB2⟩
  have k3 : (a.f0 == 3) = false:=by simpa using h3
  have hg : goodA a = (!(nmL a.f0).isEmpty && (decide (a.f1 = 0) && a.f2.toList.isEmpty)):=by unfold goodA;rw [if_neg h1,if_neg h3]
  have hl : lineL a = nmL a.f0:=by unfold lineL;rw [if_neg h1,if_neg h3]
  have hp : (plainB a.f0).toList.isEmpty = (nmL a.f0).isEmpty:=by rw [ByteArray.toList_eq];rfl
  have hps : (plainB a.f0).size ≤ 40:=by show (nmL a.f0).toArray.size ≤ 40;rw [List.size_toArray];unfold nmL;exact nm_len a.f0
  replace hl:=Lib.hid hl
  clear h1 h3
  cases hn : (nmL a.f0).isEmpty with
  | true =>
    rw [hn] at hg hp
    clear hn
    go_enter Tryz.func21,Tryz.ntmps21
    go_wp2_with (first
      | (go_at_call 42;go_must (refine plain_calls.mono ?_;rintro e w2 ⟨rfl,hb⟩;have hB2:=Lib.hid (below_step hx.out.2 hb);have hH2:=blk_below hx.out.1 hb;clear hb)))
    refine start_ (n:=12) (S:=fun w'=>w'.heap[w.heap.size]? = some (.cells #[.int .i64 a.f0,.int .i64 a.f1,.string a.f2] 35 (0,0))) (ds:=[]) #[false,false,false,false,false,false,false,false,false,false,false,false] (by kernel_rfl) rfl rfl (blk_drew hH2) (fun hHeld=>?_)
    have hB3:=below_drew hB2.out
    generalize w2.drew = w3 at hB3 hHeld ⊢
    refine pure_ (i:=0) (N:=some 45) (v:=?_) (a':=?_) #[true,false,false,false,false,false,false,false,false,false,false,false] rfl rfl (by kernel_rfl) (fun _ _ _ h=>h) (Or.inl ⟨by rfl,?_⟩) ?_ ?_
    rotate_left
    · intro w';go_simp;with_reducible rfl
    rotate_left
    · simp only [Act.put,List.setIfInBounds_toArray,List.set_cons_zero,List.set_cons_succ,i64_w,i32_w];rfl
    refine pure_ (i:=1) (N:=some 46) (v:=?_) (a':=?_) #[true,true,false,false,false,false,false,false,false,false,false,false] rfl rfl (by kernel_rfl) (fun _ _ _ h=>h) (Or.inl ⟨by rfl,?_⟩) ?_ ?_
    rotate_left
    · intro w';go_simp;with_reducible rfl
    rotate_left
    · simp only [Act.put,List.setIfInBounds_toArray,List.set_cons_zero,List.set_cons_succ,i64_w,i32_w];rfl
    refine pure_ (i:=2) (N:=some 47) (v:=?_) (a':=?_) #[true,true,true,false,false,false,false,false,false,false,false,false] rfl rfl (by kernel_rfl) (fun _ _ _ h=>h) (Or.inl ⟨by rfl,?_⟩) ?_ ?_
    rotate_left
    · intro w';go_simp;with_reducible rfl
    rotate_left
    · simp only [Act.put,List.setIfInBounds_toArray,List.set_cons_zero,List.set_cons_succ,i64_w,i32_w];rfl
    refine pure_ (i:=3) (N:=some 48) (v:=?_) (a':=?_) #[true,true,true,true,false,false,false,false,false,false,false,false] rfl rfl (by kernel_rfl) (fun _ _ _ h=>h) (Or.inl ⟨by rfl,?_⟩) ?_ ?_
    rotate_left
    · intro w';go_simp;with_reducible rfl
    rotate_left
    · simp only [Act.put,List.setIfInBounds_toArray,List.set_cons_zero,List.set_cons_succ,i64_w,i32_w];rfl
    refine pure_ (i:=4) (N:=some 49) (v:=undef) (a':=?_) #[true,true,true,true,true,false,false,false,false,false,false,false] rfl rfl (by kernel_rfl) (fun _ _ _ h=>h) (Or.inr ⟨by rfl,rfl⟩) ?_ ?_
    rotate_left
    · simp only [Act.put,List.setIfInBounds_toArray,List.set_cons_zero,List.set_cons_succ,i64_w,i32_w];rfl
    refine pure_ (i:=5) (N:=some 50) (v:=undef) (a':=?_) #[true,true,true,true,true,true,false,false,false,false,false,false] rfl rfl (by kernel_rfl) (fun _ _ _ h=>h) (Or.inr ⟨by rfl,rfl⟩) ?_ ?_
    rotate_left
    · simp only [Act.put,List.setIfInBounds_toArray,List.set_cons_zero,List.set_cons_succ,i64_w,i32_w];rfl
    refine pure_ (i:=6) (N:=some 51) (v:=undef) (a':=?_) #[true,true,true,true,true,true,true,false,false,false,false,false] rfl rfl (by kernel_rfl) (fun _ _ _ h=>h) (Or.inr ⟨by rfl,rfl⟩) ?_ ?_
    rotate_left
    · simp only [Act.put,List.setIfInBounds_toArray,List.set_cons_zero,List.set_cons_succ,i64_w,i32_w];rfl
    refine pure_ (i:=7) (N:=some 52) (v:=undef) (a':=?_) #[true,true,true,true,true,true,true,true,false,false,false,false] rfl rfl (by kernel_rfl) (fun _ _ _ h=>h) (Or.inr ⟨by rfl,rfl⟩) ?_ ?_
    rotate_left
    · simp only [Act.put,List.setIfInBounds_toArray,List.set_cons_zero,List.set_cons_succ,i64_w,i32_w];rfl
    refine pure_ (i:=8) (N:=some 53) (v:=undef) (a':=?_) #[true,true,true,true,true,true,true,true,true,false,false,false] rfl rfl (by kernel_rfl) (fun _ _ _ h=>h) (Or.inr ⟨by rfl,rfl⟩) ?_ ?_
    rotate_left
    · simp only [Act.put,List.setIfInBounds_toArray,List.set_cons_zero,List.set_cons_succ,i64_w,i32_w];rfl
    refine pure_ (i:=9) (N:=some 54) (v:=?_) (a':=?_) #[true,true,true,true,true,true,true,true,true,true,false,false] rfl rfl (by kernel_rfl) (fun _ _ _ h=>h) (Or.inl ⟨by rfl,?_⟩) ?_ ?_
    rotate_left
    · intro w';go_simp;with_reducible rfl
    rotate_left
    · simp only [Act.put,List.setIfInBounds_toArray,List.set_cons_zero,List.set_cons_succ,i64_w,i32_w];rfl
    refine pure_ (i:=10) (N:=some 2) (v:=?_) (a':=?_) #[true,true,true,true,true,true,true,true,true,true,true,false] rfl rfl (by kernel_rfl) (fun _ _ _ h=>h) (Or.inl ⟨by rfl,?_⟩) ?_ ?_
    rotate_left
    · intro w';go_simp;with_reducible rfl
    rotate_left
    · simp only [Act.put,List.setIfInBounds_toArray,List.set_cons_zero,List.set_cons_succ,i64_w,i32_w];rfl
    refine pure_ (i:=11) (N:=some 3) (v:=?_) (a':=?_) #[true,true,true,true,true,true,true,true,true,true,true,true] rfl rfl (by kernel_rfl) (fun _ _ _ h=>h) (Or.inl ⟨by rfl,?_⟩) ?_ ?_
    rotate_left
    · intro w';go_simp;with_reducible rfl
    rotate_left
    · simp only [Act.put,List.setIfInBounds_toArray,List.set_cons_zero,List.set_cons_succ,i64_w,i32_w];rfl
    refine done_ (by kernel_rfl) ?_
    try go_wp2
    go_ret2
    exact ⟨_,by rw [hg];rfl,(fun h=>by rw [hg] at h;cases h),Nat.le_trans hps (Nat.le_add_left _ _),hB3⟩
  | false =>
    rw [hn] at hg hp
    clear hn
    go_enter Tryz.func21,Tryz.ntmps21
    go_wp2_with (first
      | (go_at_call 42;go_must (refine plain_calls.mono ?_;rintro e w2 ⟨rfl,hb⟩;have hB2:=Lib.hid (below_step hx.out.2 hb);have hH2:=blk_below hx.out.1 hb;clear hb)))
    refine start_ (n:=12) (S:=fun w'=>w'.heap[w.heap.size]? = some (.cells #[.int .i64 a.f0,.int .i64 a.f1,.string a.f2] 35 (0,0))) (ds:=[]) #[false,false,false,false,false,false,false,false,false,false,false,false] (by kernel_rfl) rfl rfl (blk_drew hH2) (fun hHeld=>?_)
    have hB3:=below_drew hB2.out
    generalize w2.drew = w3 at hB3 hHeld ⊢
    refine pure_ (i:=0) (N:=some 45) (v:=?_) (a':=?_) #[true,false,false,false,false,false,false,false,false,false,false,false] rfl rfl (by kernel_rfl) (fun _ _ _ h=>h) (Or.inl ⟨by rfl,?_⟩) ?_ ?_
    rotate_left
    · intro w';go_simp;with_reducible rfl
    rotate_left
    · simp only [Act.put,List.setIfInBounds_toArray,List.set_cons_zero,List.set_cons_succ,i64_w,i32_w];rfl
    refine pure_ (i:=1) (N:=some 46) (v:=?_) (a':=?_) #[true,true,false,false,false,false,false,false,false,false,false,false] rfl rfl (by kernel_rfl) (fun _ _ _ h=>h) (Or.inl ⟨by rfl,?_⟩) ?_ ?_
    rotate_left
    · intro w';go_simp;with_reducible rfl
    rotate_left
    · simp only [Act.put,List.setIfInBounds_toArray,List.set_cons_zero,List.set_cons_succ,i64_w,i32_w];rfl
    refine pure_ (i:=2) (N:=some 47) (v:=?_) (a':=?_) #[true,true,true,false,false,false,false,false,false,false,false,false] rfl rfl (by kernel_rfl) (fun _ _ _ h=>h) (Or.inl ⟨by rfl,?_⟩) ?_ ?_
    rotate_left
    · intro w';go_simp;with_reducible rfl
    rotate_left
    · simp only [Act.put,List.setIfInBounds_toArray,List.set_cons_zero,List.set_cons_succ,i64_w,i32_w];rfl
    refine pure_ (i:=3) (N:=some 48) (v:=?_) (a':=?_) #[true,true,true,true,false,false,false,false,false,false,false,false] rfl rfl (by kernel_rfl) (fun _ _ _ h=>h) (Or.inl ⟨by rfl,?_⟩) ?_ ?_
    rotate_left
    · intro w';go_simp;with_reducible rfl
    rotate_left
    · simp only [Act.put,List.setIfInBounds_toArray,List.set_cons_zero,List.set_cons_succ,i64_w,i32_w];rfl
    refine take_ (i:=4) (N:=some 49) (v:=?_) (a':=?_) #[true,true,true,true,true,false,false,false,false,false,false,false] rfl rfl (by kernel_rfl) (fun _ _ _ h=>h) (Or.inl ⟨by rfl,?_⟩) hHeld ?_ ?_
    rotate_left
    · rintro w' s0_;have q0:=cells3 s0_;clear s0_;go_simp;with_reducible rfl
    rotate_left
    · simp only [Act.put,List.setIfInBounds_toArray,List.set_cons_zero,List.set_cons_succ,i64_w,i32_w];rfl
    refine pure_ (i:=5) (N:=some 50) (v:=?_) (a':=?_) #[true,true,true,true,true,true,false,false,false,false,false,false] rfl rfl (by kernel_rfl) (fun _ _ _ h=>h) (Or.inl ⟨by rfl,?_⟩) ?_ ?_
    rotate_left
    · intro w';go_simp;with_reducible rfl
    rotate_left
    · simp only [Act.put,List.setIfInBounds_toArray,List.set_cons_zero,List.set_cons_succ,i64_w,i32_w];rfl
    refine take_ (i:=6) (N:=some 51) (v:=?_) (a':=?_) #[true,true,true,true,true,true,true,false,false,false,false,false] rfl rfl (by kernel_rfl) (fun _ _ _ h=>h) (Or.inl ⟨by rfl,?_⟩) hHeld ?_ ?_
    rotate_left
    · rintro w' s0_;have q0:=cells3 s0_;clear s0_;go_simp;with_reducible rfl
    rotate_left
    · simp only [Act.put,List.setIfInBounds_toArray,List.set_cons_zero,List.set_cons_succ,i64_w,i32_w];rfl
    refine pure_ (i:=7) (N:=some 52) (v:=?_) (a':=?_) #[true,true,true,true,true,true,true,true,false,false,false,false] rfl rfl (by kernel_rfl) (fun _ _ _ h=>h) (Or.inl ⟨by rfl,?_⟩) ?_ ?_
    rotate_left
    · intro w';go_simp;with_reducible rfl
    rotate_left
    · simp only [Act.put,List.setIfInBounds_toArray,List.set_cons_zero,List.set_cons_succ,i64_w,i32_w];rfl
    refine pure_ (i:=8) (N:=some 53) (v:=?_) (a':=?_) #[true,true,true,true,true,true,true,true,true,false,false,false] rfl rfl (by kernel_rfl) (fun _ _ _ h=>h) (Or.inl ⟨by rfl,?_⟩) ?_ ?_
    rotate_left
    · intro w';go_simp;with_reducible rfl
    rotate_left
    · simp only [Act.put,List.setIfInBounds_toArray,List.set_cons_zero,List.set_cons_succ,i64_w,i32_w];rfl
    refine pure_ (i:=9) (N:=some 54) (v:=?_) (a':=?_) #[true,true,true,true,true,true,true,true,true,true,false,false] rfl rfl (by kernel_rfl) (fun _ _ _ h=>h) (Or.inl ⟨by rfl,?_⟩) ?_ ?_
    rotate_left
    · intro w';go_simp;with_reducible rfl
    rotate_left
    · simp only [Act.put,List.setIfInBounds_toArray,List.set_cons_zero,List.set_cons_succ,i64_w,i32_w];rfl
    refine pure_ (i:=10) (N:=some 2) (v:=?_) (a':=?_) #[true,true,true,true,true,true,true,true,true,true,true,false] rfl rfl (by kernel_rfl) (fun _ _ _ h=>h) (Or.inl ⟨by rfl,?_⟩) ?_ ?_
    rotate_left
    · intro w';go_simp;with_reducible rfl
    rotate_left
    · simp only [Act.put,List.setIfInBounds_toArray,List.set_cons_zero,List.set_cons_succ,i64_w,i32_w];rfl
    refine pure_ (i:=11) (N:=some 3) (v:=?_) (a':=?_) #[true,true,true,true,true,true,true,true,true,true,true,true] rfl rfl (by kernel_rfl) (fun _ _ _ h=>h) (Or.inl ⟨by rfl,?_⟩) ?_ ?_
    rotate_left
    · intro w';go_simp;with_reducible rfl
    rotate_left
    · simp only [Act.put,List.setIfInBounds_toArray,List.set_cons_zero,List.set_cons_succ,i64_w,i32_w];rfl
    refine done_ (by kernel_rfl) ?_
    try go_wp2
    go_ret2
    exact ⟨_,by rw [hg];rfl,fun h=>by rw [hl.out];rfl,Nat.le_trans hps (Nat.le_add_left _ _),hB3⟩
end Go.Proofs.YtjopbfidjapmbaaGreatDoor.Q
end
section
namespace Go.Proofs.YtjopbfidjapmbaaGreatDoor.Q
open Go.RowKit Go.Proofs.YtjopbfidjapmbaaGreatDoorW.PrintWords Go.Proofs.YtjopbfidjapmbaaGreatDoorW.PrintLast Go.Proofs.YtjopbfidjapmbaaGreatDoorW.PrintMore
set_option linter.unusedVariables false
set_option linter.unusedSimpArgs false
open Go.Proofs.YtjopbfidjapmbaaGreatDoorS
open Go.Lib
theorem nm_head (k : Int) (r : List UInt8) : tyL ++ r ≠ nmL k ∧ mvL ++ r ≠ nmL k:=by
  unfold nmL tyL mvL
  refine ⟨?_,?_⟩
  all_goals
    repeat' split
    all_goals
      intro e
      have e2:=congrArg (fun l : List UInt8=>l.head?) e
      revert e2
      simp
theorem nm_inj {j k : Int} (h : nmL j = nmL k) (hn : nmL j ≠ []) : j = k:=by
  revert h hn
  unfold nmL
  repeat' split
  all_goals (first | (subst_vars;intros;first | rfl | omega | (rename_i h1 _;revert h1;decide) | (rename_i h1;revert h1;decide) | contradiction | (exfalso;revert ‹_ = _›;decide)) | skip)
theorem nm_ne {k : Int} : nmL k ≠ [] ↔ k = 2 ∨ k = 4 ∨ k = 5 ∨ k = 6 ∨ k = 7:=by
  unfold nmL
  repeat' split
  all_goals simp [*]
theorem line_nm {a : Act3} (h : goodA a = true) (k : Int) : lineL a = nmL k ↔ (a.f0 = k ∧ a.f0 ≠ 1 ∧ a.f0 ≠ 3):=by
  unfold lineL
  by_cases h1 : a.f0 = 1
  · rw [if_pos h1]
    exact ⟨fun e=>absurd e (nm_head k _).1,fun e=>absurd h1 e.2.1⟩
  · rw [if_neg h1]
    by_cases h3 : a.f0 = 3
    · rw [if_pos h3]
      exact ⟨fun e=>absurd e (nm_head k _).2,fun e=>absurd h3 e.2.2⟩
    · rw [if_neg h3]
      have hne : nmL a.f0 ≠ []:=by
        have:=line_ne h
        unfold lineL at this
        rwa [if_neg h1,if_neg h3] at this
      exact ⟨fun e=>⟨nm_inj e hne,h1,h3⟩,fun e=>by rw [e.1]⟩
end Go.Proofs.YtjopbfidjapmbaaGreatDoor.Q
end
section
namespace Go.Proofs.YtjopbfidjapmbaaGreatDoor.Q
open Go.RowKit Go.Proofs.YtjopbfidjapmbaaGreatDoorW.PrintWords Go.Proofs.YtjopbfidjapmbaaGreatDoorW.PrintLast Go.Proofs.YtjopbfidjapmbaaGreatDoorW.PrintMore
set_option linter.unusedVariables false
set_option linter.unusedSimpArgs false
open Go.Proofs.YtjopbfidjapmbaaGreatDoorS
theorem ba_eta (x : ByteArray) : (⟨x.data.toList.toArray⟩ : ByteArray) = x:=by cases x;simp
theorem beq_nm {s : ByteArray} {l : List UInt8} (h : s.data.toList = l) (k : Int) : (s.toList == (plainB k).toList) = decide (l = nmL k):=by
  have e1 : s.toList = l:=by rw [ByteArray.toList_eq,h]
  have e2 : (plainB k).toList = nmL k:=by rw [ByteArray.toList_eq];rfl
  rw [e1,e2]
  by_cases e : l = nmL k
  · rw [decide_eq_true e,e];simp
  · rw [decide_eq_false e];exact beq_eq_false_iff_ne.2 e
theorem trim_ty (r : List UInt8) : Lib.trimPrefix (tyL ++ r) tyL = r:=rfl
theorem trim_mv (r : List UInt8) : Lib.trimPrefix (mvL ++ r) mvL = r:=rfl
theorem pre_ty (r : List UInt8) : Lib.hasPrefix (tyL ++ r) tyL = true ∧ Lib.hasPrefix (mvL ++ r) tyL = false ∧ Lib.hasPrefix (mvL ++ r) mvL = true:=⟨by simp [Lib.hasPrefix,tyL],rfl,by simp [Lib.hasPrefix,mvL]⟩
theorem good_kind {a : Act3} (h : goodA a = true) : (a.f0 = 1 ∧ a.f1 = 0 ∧ a.f2.toList.isEmpty = false) ∨ (a.f0 = 3 ∧ 0 ≤ a.f1 ∧ a.f2 = ⟨#[]⟩) ∨ ((a.f0 = 2 ∨ a.f0 = 4 ∨ a.f0 = 5 ∨ a.f0 = 6 ∨ a.f0 = 7) ∧ a.f1 = 0 ∧ a.f2 = ⟨#[]⟩):=by
  unfold goodA at h
  by_cases h1 : a.f0 = 1
  · rw [if_pos h1] at h
    simp only [Bool.and_eq_true,decide_eq_true_eq,Bool.not_eq_true'] at h
    exact .inl ⟨h1,h.1.1,h.1.2⟩
  · rw [if_neg h1] at h
    by_cases h3 : a.f0 = 3
    · rw [if_pos h3] at h
      simp only [Bool.and_eq_true,decide_eq_true_eq] at h
      exact .inr (.inl ⟨h3,h.1,nil_of (List.isEmpty_iff.1 h.2)⟩)
    · rw [if_neg h3] at h
      simp only [Bool.and_eq_true,decide_eq_true_eq,Bool.not_eq_true'] at h
      have hne : nmL a.f0 ≠ []:=fun e=>by rw [e] at h;exact absurd h.1 (by decide)
      exact .inr (.inr ⟨nm_ne.1 hne,h.2.1,nil_of (List.isEmpty_iff.1 h.2.2)⟩)
set_option maxHeartbeats 8000000 in
set_option maxRecDepth 1000000 in
theorem acts_calls {a : Act3} {s : ByteArray} {w : World} (hT : Tabs w) (hg : goodA a = true) (hs : s.data.toList = lineL a) (hf : a.f1 ≤ 999999999) :
    Calls Tryz.prog 26 #[.string s] w fun e w'=>e = .returned (.tuple #[.agg #[.int .i64 a.f0,.int .i64 a.f1,.string a.f2],.bool true]) ∧ Below w.heap.size w w':=by
  have hx:=box1 w (.cells #[.int .i64 0,.int .i64 0,.string ⟨#[]⟩] 35)
  replace hx:=Lib.hid hx
  have hu:=Tryz.underlying35
  have hne : s.toList.isEmpty = false:=by
    rw [ByteArray.toList_eq,hs]
    have:=line_ne hg
    cases h : lineL a with
    | nil=>exact absurd h this
    | cons x l=>rfl
  have hkind:=Lib.hid (good_kind hg)
  have hline:=Lib.hid (line_nm hg)
  replace hs:=Lib.hid hs
  go_enter Tryz.func26,Tryz.ntmps26
  go_wp2
  go_loopw [4] (fun v4 wr=>∃ q : Int,v4 = .int .i64 q ∧ Hid (1 ≤ q ∧ q ≤ 8) ∧ Hid (∀ k,1 ≤ k → k < q → lineL a ≠ nmL k) ∧ Hid (wr.heap[w.heap.size]? = some (.cells #[.int .i64 0,.int .i64 0,.string ⟨#[]⟩] 35 (0,0))) ∧ Hid (Below w.heap.size w wr)) (fun v4 _=>8 - (intOf v4).toNat)
  case atStart=>exact ⟨1,rfl,Lib.hid (by decide),Lib.hid (fun k h1 h2=>absurd h1 (by omega)),Lib.hid hx.out.1,Lib.hid hx.out.2⟩
  case round =>
    obtain ⟨q,rfl,hq,hnk,hX,hB⟩:=hrel
    have tx:=cells3 hX.out
    have tf:=frozen3 hX.out
    by_cases hlt : q ≤ 7
    · have hq3 : q < 100:=by omega
      have hq0 : 0 ≤ q:=by have:=hq.out;omega
      have hbq:=beq_nm hs.out q
      by_cases he : lineL a = nmL q
      · rw [decide_eq_true he] at hbq
        have hk:=(hline.out q).1 he
        have hE : (a.f1 = 0 ∧ a.f2 = ⟨#[]⟩):=by
          rcases hkind.out with h | h | h
          · exact absurd h.1 hk.2.1
          · exact absurd h.1 hk.2.2
          · exact h.2
        replace hk:=Lib.hid hk
        clear he
        go_wp2_with (first
          | (go_at_call 42;go_must (refine plain_calls.mono ?_;rintro e w3 ⟨rfl,hb⟩;have hB3:=Lib.hid (below_step hB.out hb);have X3:=blk_below hX.out hb;have x3:=cells3 X3;have f3:=frozen3 X3;clear hb))
          | ((with_reducible refine gate_store (t:=35) (p:=2) (v:=.tmp 24) rfl ?_);go_must (refine store_event (w1:=put3 w3 w.heap.size (.int .i64 q) (.int .i64 0) (.string ⟨#[]⟩)) (by rfl) (by rfl) (by rfl) ?hr ?_;(case hr=>first | (go_simp;done) | (go_simp;rfl));intro w5 hw5;have Fw5:=put3_facts X3 (.int .i64 q) (.int .i64 0) (.string ⟨#[]⟩);rw [← hw5] at Fw5;clear hw5)))
        refine bodyPost_ret (results_ct rfl _ _ w.heap.size 35 #[.int .i64 q,.int .i64 0,.string ⟨#[]⟩] (0,0) _ rfl Fw5.1 Tryz.underlying35 rfl (by kernel_rfl)) rfl ?_
        rw [hE.1,hE.2,hk.out.1]
        exact ⟨rfl,Fw5.2.2 _ _ hB3.out (Nat.le_refl _)⟩
      · rw [decide_eq_false he] at hbq
        replace he:=Lib.hid he
        go_wp2_with (first
          | (go_at_call 42;go_must (refine plain_calls.mono ?_;rintro e w3 ⟨rfl,hb⟩;have hB3:=Lib.hid (below_step hB.out hb);have X3:=Lib.hid (blk_below hX.out hb);clear hb)))
        refine ⟨⟨q + 1,rfl,Lib.hid ⟨by have:=hq.out;omega,by omega⟩,Lib.hid (fun k h1 h2=>?_),X3,hB3⟩,?_⟩
        · by_cases hkq : k = q
          · rw [hkq];exact he.out
          · exact hnk.out k h1 (by omega)
        · simp only [intOf];have:=hq.out;omega
    · have hq8 : q = 8:=by have:=hq.out;omega
      subst hq8
      rcases hkind.out with h | h | h
      · obtain ⟨h1,h2,h3⟩:=h
        have hl : lineL a = tyL ++ a.f2.data.toList:=by unfold lineL;rw [if_pos h1]
        have hct:=Lib.hid (Tryz.strings_CutPrefix s ⟨#[116,121,112,101,32]⟩ wr)
        have e1 : Lib.trimPrefix s.data.toList (⟨#[116,121,112,101,32]⟩ : ByteArray).data.toList = a.f2.data.toList:=by rw [hs.out,hl];exact trim_ty _
        have e2 : Lib.hasPrefix s.data.toList (⟨#[116,121,112,101,32]⟩ : ByteArray).data.toList = true:=by rw [hs.out,hl];exact (pre_ty _).1
        rw [e1,e2,ba_eta] at hct
        clear e1 e2
        replace hl:=Lib.hid hl
        replace h1:=Lib.hid h1
        replace h2:=Lib.hid h2
        go_wp2_with (first
          | (go_at_call 47;go_must (refine hct.out.mono ?_;rintro e w3 ⟨rfl,hw⟩;rw [hw];clear hw w3))
          | ((with_reducible refine gate_store (t:=35) (p:=2) (v:=.tmp 32) rfl ?_);go_must (refine store_event (w1:=put3 wr w.heap.size (.int .i64 1) (.int .i64 0) (.string a.f2)) (by rfl) (by rfl) (by rfl) ?hr ?_;(case hr=>first | (go_simp;done) | (go_simp;rfl));intro w5 hw5;have Fw5:=put3_facts hX.out (.int .i64 1) (.int .i64 0) (.string a.f2);rw [← hw5] at Fw5;clear hw5)))
        refine bodyPost_ret (results_ct rfl _ _ w.heap.size 35 #[.int .i64 1,.int .i64 0,.string a.f2] (0,0) _ rfl Fw5.1 Tryz.underlying35 rfl (by kernel_rfl)) rfl ?_
        rw [h1.out,h2.out]
        exact ⟨rfl,Fw5.2.2 _ _ hB.out (Nat.le_refl _)⟩
      · obtain ⟨h1,h2,h3⟩:=h
        have hl : lineL a = mvL ++ Lib.itoa a.f1:=by unfold lineL;rw [if_neg (by omega),if_pos h1]
        have hct:=Tryz.strings_CutPrefix s ⟨#[116,121,112,101,32]⟩ wr
        have e1 : Lib.hasPrefix s.data.toList (⟨#[116,121,112,101,32]⟩ : ByteArray).data.toList = false:=by rw [hs.out,hl];exact (pre_ty _).2.1
        rw [e1] at hct
        have hcm:=Tryz.strings_CutPrefix s ⟨#[109,111,118,101,32]⟩ wr
        have e2 : Lib.trimPrefix s.data.toList (⟨#[109,111,118,101,32]⟩ : ByteArray).data.toList = Lib.itoa a.f1:=by rw [hs.out,hl];exact trim_mv _
        have e3 : Lib.hasPrefix s.data.toList (⟨#[109,111,118,101,32]⟩ : ByteArray).data.toList = true:=by rw [hs.out,hl];exact (pre_ty _).2.2
        rw [e2,e3] at hcm
        clear e1 e2 e3
        replace hct:=Lib.hid hct
        replace hcm:=Lib.hid hcm
        obtain ⟨dg,hdg⟩ : ∃ d : ByteArray,(⟨(Lib.itoa a.f1).toArray⟩ : ByteArray) = d:=⟨_,rfl⟩
        have hdl : dg.data.toList = Lib.itoa a.f1:=by rw [← hdg]
        have hds : dg.size ≤ 9:=by
          rw [← hdg]
          show (Lib.itoa a.f1).toArray.size ≤ 9
          rw [List.size_toArray,dec_itoa h2]
          exact dec_len 8 _ (by omega)
        have hat : Lib.atoi dg.data.toList = some a.f1:=by
          rw [hdl,dec_itoa h2,dec_atoi]
          congr 1
          omega
        rw [hdg] at hcm
        have hds2 : decide ((dg.size : Int) ≤ 9) = true:=decide_eq_true (by omega)
        have h2b : decide (a.f1 ≥ 0) = true:=decide_eq_true h2
        have h2c : decide (0 ≤ a.f1) = true:=decide_eq_true h2
        have tok1 : True:=trivial
        have hdd : (dg.toList == dg.toList) = true:=by simp
        replace hat:=Lib.hid hat
        replace hdg:=Lib.hid hdg
        replace hl:=Lib.hid hl
        replace h1:=Lib.hid h1
        go_wp2_with (first
          | (go_at_call 47;have tq:=tok1;go_must (clear tq tok1;refine hct.out.mono ?_;rintro e w3 ⟨rfl,hw⟩;rw [hw];clear hw w3))
          | (go_at_call 47;go_must (refine hcm.out.mono ?_;rintro e w3 ⟨rfl,hw⟩;rw [hw];clear hw w3))
          | (go_at_call 48;go_must (refine (Tryz.strconv_Atoi dg a.f1 (by omega) hat.out wr).mono ?_;rintro e w3 ⟨rfl,t,hw3⟩;have hb : Below wr.heap.size wr w3:=(by rw [hw3];exact Lib.bytesWorld_below _ _ _);clear hw3;have hB3:=Lib.hid (below_step hB.out hb);have X3:=Lib.hid (blk_below hX.out hb);clear hb tx tf))
          | (go_at_call 41;go_must (refine (Tryz.strconv_Itoa a.f1 (by omega) (by omega) w3 (tabs_below hT hB3.out).p).mono ?_;rw [hdg.out];rintro e w4 ⟨rfl,kk,os,hw4⟩;have hb : Below w3.heap.size w3 w4:=(by rw [hw4];exact Lib.below_grow _ _ (Nat.le_refl _) _ _);clear hw4;have hB4:=Lib.hid (below_step hB3.out hb);have X4:=blk_below X3.out hb;have x4:=cells3 X4;have f4:=frozen3 X4;clear hb))
          | ((with_reducible refine gate_store (t:=35) (p:=2) (v:=.tmp 46) rfl ?_);go_must (refine store_event (w1:=put3 w4 w.heap.size (.int .i64 3) (.int .i64 a.f1) (.string ⟨#[]⟩)) (by rfl) (by rfl) (by rfl) ?hr ?_;(case hr=>first | (go_simp;done) | (go_simp;rfl));intro w5 hw5;have Fw5:=put3_facts X4 (.int .i64 3) (.int .i64 a.f1) (.string ⟨#[]⟩);rw [← hw5] at Fw5;clear hw5)))
        refine bodyPost_ret (results_ct rfl _ _ w.heap.size 35 #[.int .i64 3,.int .i64 a.f1,.string ⟨#[]⟩] (0,0) _ rfl Fw5.1 Tryz.underlying35 rfl (by kernel_rfl)) rfl ?_
        rw [h1.out,h3]
        exact ⟨rfl,Fw5.2.2 _ _ hB4.out (Nat.le_refl _)⟩
      · exact absurd (((hline.out a.f0).2 ⟨rfl,by omega,by omega⟩)) (hnk.out a.f0 (by omega) (by omega))
end Go.Proofs.YtjopbfidjapmbaaGreatDoor.Q
end
