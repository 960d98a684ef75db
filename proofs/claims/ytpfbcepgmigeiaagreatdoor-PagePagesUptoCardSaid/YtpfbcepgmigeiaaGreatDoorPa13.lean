/- PART 13 OF A PROOF: Lean functions, and that the program computes them; written by hand and by a program. Not trusted: Lean checks it. -/
import Derived.Deep.QuietTactic
import Derived.Test.YtpfbcepgmigeiaaGreatDoorPa2
import Derived.Test.YtpfbcepgmigeiaaGreatDoorPa3
import Derived.Test.YtpfbcepgmigeiaaGreatDoorPa8
import Derived.Test.YtpfbcepgmigeiaaGreatDoorPa12
set_option linter.unusedVariables false
set_option linter.unusedSimpArgs false
section
namespace Go.Proofs.YtpfbcepgmigeiaaGreatDoor.Q
open Go.RowKit Go.Proofs.YtpfbcepgmigeiaaGreatDoorW.PrintWords Go.Proofs.YtpfbcepgmigeiaaGreatDoorW.PrintLast Go.Proofs.YtpfbcepgmigeiaaGreatDoorW.PrintMore
attribute [local go_sem] max2_int min2_int max_two min_two max_three min_three max_four min_four
set_option linter.unusedVariables false
set_option linter.unusedSimpArgs false
mutual
def rebusref21_Line.j0 : Nat → ByteArray → Bool → Option (Bool)
 | 0,_,_=>none
 | k + 1,x0,x12=>if x12 = true then (some false) else ((rebusref01_Runes.f k x0).bind fun t201=>(rebusref21_Line.l0 k x0 t201 0))
def rebusref21_Line.l0 : Nat → ByteArray → List Int → Int → Option (Bool)
 | 0,_,_,_=>none
 | k + 1,x0,x3,x4=>if x4 < (x3.length : Int) then (if 0 ≤ x4 then (if (rd x3 x4) < 32 then (some false) else (if (rd x3 x4) = 127 then (some false) else (rebusref21_Line.l0 k x0 x3 (wrap64 (x4 + 1))))) else (none)) else (if x0.toList = ([] : List UInt8) then (some true) else (if 0 < (x0.size : Int) then (if (bt x0 0) = 32 then (some false) else (if 0 ≤ (wrap64 ((x0.size : Int) - 1)) then (if (wrap64 ((x0.size : Int) - 1)) < (x0.size : Int) then (some ((bt x0 (wrap64 ((x0.size : Int) - 1))) != 32)) else (none)) else (none))) else (none)))
end
def rebusref21_Line.f (k : Nat) (a0 : ByteArray) : Option (Bool):=if (a0.size : Int) > 960 then (rebusref21_Line.j0 k a0 true) else ((rebusref01_Valid.f k a0).bind fun t200=>(rebusref21_Line.j0 k a0 (!t200)))
set_option maxHeartbeats 8000000 in
set_option maxRecDepth 100000 in
theorem rebusref21_Line.calls (k : Nat) (a0 : ByteArray) (r : Bool) (w : World) (h : rebusref21_Line.f k a0 = some r) :
  Calls Tryz.prog 53 #[.string a0] w fun e w'=>e = .returned (.bool r) ∧ Below w.heap.size w w':=by
 have HB:=Aside0.mk (Below.refl w.heap.size w)
 have H : (if (a0.size : Int) > 960 then (rebusref21_Line.j0 k a0 true) else ((rebusref01_Valid.f k a0).bind fun t200=>(rebusref21_Line.j0 k a0 (!t200)))) = some r:=h
 clear h
 have HC2:=Aside0.mk H
 clear H
 go_enter Tryz.func53,Tryz.ntmps53
 go_upto_region 1 with (fail)
 go_cut [12] (fun v12 wc=>∃ (kq : Nat) (x12_1 : Bool),v12 = .bool x12_1 ∧ Aside0 (rebusref21_Line.j0 kq a0 x12_1 = some r) ∧ Aside0 (kq ≤ k) ∧ Aside0 (Below w.heap.size w wc))
 case first =>
  have H:=HC2.out
  clear HC2
  by_cases c3 : (a0.size : Int) > 960
  ·rw [if_pos c3] at H
   have c3b0 : decide (960 < (a0.size : Int)) = true:=decide_eq_true c3
   have c3b1 : decide (960 < a0.size) = true:=decide_eq_true (by omega)
   clear c3
   (first | rw [c3b0] | (simp only [i64_w,i32_w];rw [c3b0]) | skip)
   have H':=Aside0.mk H
   clear H
   go_wp2
   go_meet
   case rel=>exact ⟨_,(true),(by first | rfl | (simp;done) | (simp [*];done)),H',⟨by first | omega | exact Nat.le_refl _⟩,⟨by repeat (first | (with_reducible first | exact HB.out | apply below_alloc | apply pw_below_drewN | apply below_drew1) | exact HB.out)⟩⟩
  ·rw [if_neg c3] at H
   have c3b0 : decide (960 < (a0.size : Int)) = false:=decide_eq_false c3
   have c3b1 : decide (960 < a0.size) = false:=decide_eq_false (by omega)
   clear c3
   (first | rw [c3b0] | (simp only [i64_w,i32_w];rw [c3b0]) | skip)
   replace H:=Option.bind_eq_some_iff.mp H
   obtain ⟨t200,A40,H⟩:=H
   replace H : (rebusref21_Line.j0 k a0 (!t200)) = some r:=H
   have A4:=Aside0.mk A40
   clear A40
   have H':=Aside0.mk H
   clear H
   go_wp2_with (first | (go_at_call 86;(with_reducible refine (rebusref01_Valid.calls k a0 t200 _ A4.out).mono ?_);rintro e w' ⟨rfl,⟨nd,rfl⟩⟩))
   go_meet
   case rel=>exact ⟨_,(!t200),(by first | rfl | (simp;done) | (simp [*];done)),H',⟨by first | omega | exact Nat.le_refl _⟩,⟨by repeat (first | (with_reducible first | exact HB.out | apply below_alloc | apply pw_below_drewN | apply below_drew1) | exact HB.out)⟩⟩
 case rest =>
  clear HC2
  try clear p2
  try clear c3
  try clear c3b0
  try clear c3b1
  obtain ⟨kq,x12_1,rfl,HA,HJ1,HB⟩:=hcut
  cases kq with
  | zero=>exact absurd HA.out (by simp [rebusref21_Line.j0])
  | succ kj1 =>
   have H:=HA.out
   clear HA
   simp only [rebusref21_Line.j0] at H
   by_cases c5 : x12_1 = true
   ·subst c5
    have H1 : (some false) = some r:=by rw [if_pos rfl] at H;exact H
    clear H
    have H:=H1
    clear H1
    obtain rfl:=Option.some.inj H
    go_wp2
    go_ret
    exact ⟨by first | rfl | (simp [errW_none,errW_some] <;> rfl) | (simp [*,errW_none,errW_some] <;> rfl) | (exfalso;contradiction),by repeat (first | (with_reducible first | exact HB.out | apply below_alloc | apply pw_below_drewN | apply below_drew1) | exact HB.out)⟩
   ·replace c5:=Bool.eq_false_iff.mpr c5
    subst c5
    have H1 : ((rebusref01_Runes.f kj1 a0).bind fun t201=>(rebusref21_Line.l0 kj1 a0 t201 0)) = some r:=by rw [if_neg (show ¬ (false = true) by decide)] at H;exact H
    clear H
    have H:=H1
    clear H1
    replace H:=Option.bind_eq_some_iff.mp H
    obtain ⟨t201,A60,H⟩:=H
    replace H : (rebusref21_Line.l0 kj1 a0 t201 0) = some r:=H
    have A6:=Aside0.mk A60
    clear A60
    have H':=Aside0.mk H
    clear H
    go_wp2_with (first | ((with_reducible refine gate_callee (f:=83) rfl ?_);refine goesL_ (some 14) rfl rfl Tryz.func83 (by kernel_rfl) rfl #[.string a0] rfl (by (try simp only [List.map_toArray,List.map_cons,List.map_nil]);first | done | rfl | (simp only [List.length_drop,List.length_take];rfl)) ?_;(with_reducible refine (rebusref01_Runes.calls kj1 a0 t201 _ A6.out).mono ?_);rintro e w7 ⟨v202,rfl,ho0,hb⟩;refine ⟨_,rfl,?_⟩;have n0_:=Aside0.mk (Kd.R_lower ho0 (below_size (by repeat (first | (with_reducible first | exact HB.out | apply below_alloc | apply pw_below_drewN | apply below_drew1) | exact HB.out))));have n1_:=Aside0.mk (below_step (by repeat (first | (with_reducible first | exact HB.out | apply below_alloc | apply pw_below_drewN | apply below_drew1) | exact HB.out)) hb);clear HB;have HO203:=n0_;have HB:=n1_;clear n0_ n1_;(try clear hb);(try clear hb2);(try clear hk);(try clear hi);(try clear ho0)))
    go_loopg [4] kj1 (fun kq v4 w'=>∃ (x4_2 : Int),v4 = .int .i64 x4_2 ∧ Aside0 (rebusref21_Line.l0 kq a0 t201 x4_2 = some r) ∧ Aside0 (kq ≤ kj1) ∧ Aside0 (Kd.R (Kd.int .i32) 21 w' w.heap.size (fun _=>True) v202 t201) ∧ Aside0 (Below w.heap.size w w'))
    case atStart=>exact ⟨(0),(by first | rfl | (simp;done) | (simp [*];done)),H',⟨Nat.le_refl _⟩,⟨by (with_reducible repeat (first | apply Kd.R_alloc | apply Kd.R_drewN | apply Kd.R_drew));exact HO203.out⟩,⟨by repeat (first | (with_reducible first | exact HB.out | apply below_alloc | apply pw_below_drewN | apply below_drew1) | exact HB.out)⟩⟩
    case round =>
     clear H'
     try clear p2
     try clear c3
     try clear c3b0
     try clear c3b1
     try clear c5
     try clear p2
     obtain ⟨x4_2,rfl,HA,HK2,HO_3,HB⟩:=hrel
     cases gk with
     | zero=>exact absurd HA.out (by simp [rebusref21_Line.l0])
     | succ k2 =>
      have H:=HA.out
      clear HA
      simp only [rebusref21_Line.l0] at H
      by_cases c8 : x4_2 < (t201.length : Int)
      ·rw [if_pos c8] at H
       have c8b0 : decide (x4_2 < (t201.length : Int)) = true:=decide_eq_true c8
       clear c8
       by_cases c9 : 0 ≤ x4_2
       ·rw [if_pos c9] at H
        have c9b0 : decide (0 ≤ x4_2) = true:=decide_eq_true c9
        clear c9
        by_cases c10 : (rd t201 x4_2) < 32
        ·rw [if_pos c10] at H
         have c10b0 : decide ((rd t201 x4_2) < 32) = true:=decide_eq_true c10
         clear c10
         obtain rfl:=Option.some.inj H
         obtain ⟨Ao11,co11,eo11⟩:=Kd.R_slice HO_3.out
         subst eo11
         have p204 : 0 ≤ (x4_2 : Int):=of_decide_eq_true (by first | (with_reducible assumption) | assumption)
         have q204 : x4_2 < (t201.length : Int):=of_decide_eq_true (by first | (with_reducible assumption) | assumption)
         obtain ⟨ad204,e204,hx204_0⟩:=Kd.at_int (Kd.R_reads' HO_3.out).2.2 x4_2 p204 q204
         cases e204
         replace p204:=eq_true p204
         replace q204:=eq_true q204
         go_wp2
         go_ret
         exact ⟨by first | rfl | (simp [errW_none,errW_some] <;> rfl) | (simp [*,errW_none,errW_some] <;> rfl) | (exfalso;contradiction),by repeat (first | (with_reducible first | exact HB.out | apply below_alloc | apply pw_below_drewN | apply below_drew1) | exact HB.out)⟩
        ·rw [if_neg c10] at H
         have c10b0 : decide ((rd t201 x4_2) < 32) = false:=decide_eq_false c10
         clear c10
         by_cases c12 : (rd t201 x4_2) = 127
         ·rw [if_pos c12] at H
          have c12b0 : ((rd t201 x4_2) == 127) = true:=beq_iff_eq.mpr c12
          have c12b1 : ((rd t201 x4_2) != 127) = false:=bne_eq_false_iff_eq.mpr c12
          clear c12
          obtain rfl:=Option.some.inj H
          obtain ⟨Ao13,co13,eo13⟩:=Kd.R_slice HO_3.out
          subst eo13
          have p204 : 0 ≤ (x4_2 : Int):=of_decide_eq_true (by first | (with_reducible assumption) | assumption)
          have q204 : x4_2 < (t201.length : Int):=of_decide_eq_true (by first | (with_reducible assumption) | assumption)
          obtain ⟨ad204,e204,hx204_0⟩:=Kd.at_int (Kd.R_reads' HO_3.out).2.2 x4_2 p204 q204
          cases e204
          replace p204:=eq_true p204
          replace q204:=eq_true q204
          have p205 : 0 ≤ (x4_2 : Int):=of_decide_eq_true (by first | (with_reducible assumption) | assumption)
          have q205 : x4_2 < (t201.length : Int):=of_decide_eq_true (by first | (with_reducible assumption) | assumption)
          obtain ⟨ad205,e205,hx205_0⟩:=Kd.at_int (Kd.R_reads' HO_3.out).2.2 x4_2 p205 q205
          obtain rfl : ad204 = ad205:=(by injection e205)
          replace p205:=eq_true p205
          replace q205:=eq_true q205
          go_wp2
          go_ret
          exact ⟨by first | rfl | (simp [errW_none,errW_some] <;> rfl) | (simp [*,errW_none,errW_some] <;> rfl) | (exfalso;contradiction),by repeat (first | (with_reducible first | exact HB.out | apply below_alloc | apply pw_below_drewN | apply below_drew1) | exact HB.out)⟩
         ·rw [if_neg c12] at H
          have c12b0 : ((rd t201 x4_2) == 127) = false:=beq_eq_false_iff_ne.mpr c12
          have c12b1 : ((rd t201 x4_2) != 127) = true:=bne_iff_ne.mpr c12
          have H':=Aside0.mk H
          clear H
          obtain ⟨Ao14,co14,eo14⟩:=Kd.R_slice HO_3.out
          subst eo14
          have p204 : 0 ≤ (x4_2 : Int):=of_decide_eq_true (by first | (with_reducible assumption) | assumption)
          have q204 : x4_2 < (t201.length : Int):=of_decide_eq_true (by first | (with_reducible assumption) | assumption)
          obtain ⟨ad204,e204,hx204_0⟩:=Kd.at_int (Kd.R_reads' HO_3.out).2.2 x4_2 p204 q204
          cases e204
          replace p204:=eq_true p204
          replace q204:=eq_true q204
          have p205 : 0 ≤ (x4_2 : Int):=of_decide_eq_true (by first | (with_reducible assumption) | assumption)
          have q205 : x4_2 < (t201.length : Int):=of_decide_eq_true (by first | (with_reducible assumption) | assumption)
          obtain ⟨ad205,e205,hx205_0⟩:=Kd.at_int (Kd.R_reads' HO_3.out).2.2 x4_2 p205 q205
          obtain rfl : ad204 = ad205:=(by injection e205)
          replace p205:=eq_true p205
          replace q205:=eq_true q205
          go_wp2
          go_roundg k2
          case measure=>have:=HJ1.out;have:=HK2.out;omega
          case rel=>exact ⟨(wrap64 (x4_2 + 1)),(by first | rfl | (simp;done) | (simp [*];done)),H',⟨by have:=HJ1.out;have:=HK2.out;omega⟩,⟨by (with_reducible repeat (first | apply Kd.R_alloc | apply Kd.R_drewN | apply Kd.R_drew));exact HO_3.out⟩,⟨by repeat (first | (with_reducible first | exact HB.out | apply below_alloc | apply pw_below_drewN | apply below_drew1) | exact HB.out)⟩⟩
       ·rw [if_neg c9] at H
        exact absurd H (by simp)
      ·rw [if_neg c8] at H
       have c8b0 : decide (x4_2 < (t201.length : Int)) = false:=decide_eq_false c8
       clear c8
       by_cases c15 : a0.toList = ([] : List UInt8)
       ·rw [if_pos c15] at H
        have c15b0 : (a0.toList == ([] : List UInt8)) = true:=beq_iff_eq.mpr c15
        have c15b1 : (a0.toList != ([] : List UInt8)) = false:=bne_eq_false_iff_eq.mpr c15
        clear c15
        obtain rfl:=Option.some.inj H
        obtain ⟨Ao16,co16,eo16⟩:=Kd.R_slice HO_3.out
        subst eo16
        go_wp2
        go_ret
        exact ⟨by first | rfl | (simp [errW_none,errW_some] <;> rfl) | (simp [*,errW_none,errW_some] <;> rfl) | (exfalso;contradiction),by repeat (first | (with_reducible first | exact HB.out | apply below_alloc | apply pw_below_drewN | apply below_drew1) | exact HB.out)⟩
       ·rw [if_neg c15] at H
        have c15b0 : (a0.toList == ([] : List UInt8)) = false:=beq_eq_false_iff_ne.mpr c15
        have c15b1 : (a0.toList != ([] : List UInt8)) = true:=bne_iff_ne.mpr c15
        by_cases c17 : 0 < (a0.size : Int)
        ·rw [if_pos c17] at H
         have c17b0 : decide (0 < (a0.size : Int)) = true:=decide_eq_true c17
         have c17b1 : decide (0 < a0.size) = true:=decide_eq_true (by omega)
         clear c17
         by_cases c19 : (bt a0 0) = 32
         ·rw [if_pos c19] at H
          have c19b0 : ((bt a0 0) == 32) = true:=beq_iff_eq.mpr c19
          have c19b1 : ((bt a0 0) != 32) = false:=bne_eq_false_iff_eq.mpr c19
          clear c19
          obtain rfl:=Option.some.inj H
          obtain ⟨Ao20,co20,eo20⟩:=Kd.R_slice HO_3.out
          subst eo20
          have p18 : 0 ≤ (0 : Int):=(by omega)
          have q18 : 0 < a0.size:=(by have : (0 : Int) < (a0.size : Int):=of_decide_eq_true (by first | (with_reducible assumption) | assumption);omega)
          have hx18 : ∀ h : 0 < a0.size,((a0[0]'h).toNat : Int) = bt a0 0:=bt_at a0 0
          clear p18
          have qi18 : (0 < (a0.size : Int)) = True:=eq_true (of_decide_eq_true (by first | (with_reducible assumption) | assumption))
          replace q18:=eq_true q18
          go_wp2
          go_ret
          exact ⟨by first | rfl | (simp [errW_none,errW_some] <;> rfl) | (simp [*,errW_none,errW_some] <;> rfl) | (exfalso;contradiction),by repeat (first | (with_reducible first | exact HB.out | apply below_alloc | apply pw_below_drewN | apply below_drew1) | exact HB.out)⟩
         ·rw [if_neg c19] at H
          have c19b0 : ((bt a0 0) == 32) = false:=beq_eq_false_iff_ne.mpr c19
          have c19b1 : ((bt a0 0) != 32) = true:=bne_iff_ne.mpr c19
          obtain ⟨ji21,hji21⟩ : ∃ j_ : Int,(wrap64 ((a0.size : Int) - 1)) = j_:=⟨_,rfl⟩
          replace H : (if 0 ≤ (ji21) then (if (ji21) < (a0.size : Int) then (some ((bt a0 (ji21)) != 32)) else (none)) else (none)) = some r:=by first | (rw [hji21] at H;exact H) | (simp only [hji21] at H ⊢;exact H)
          have hji21w : (IntKind.i64.wrap ((a0.size : Int) - 1)) = ji21:=(i64_w _).trans hji21
          by_cases c22 : 0 ≤ (ji21)
          ·rw [if_pos c22] at H
           have c22b0 : decide (0 ≤ (ji21)) = true:=decide_eq_true c22
           clear c22
           by_cases c23 : (ji21) < (a0.size : Int)
           ·rw [if_pos c23] at H
            have c23b0 : decide ((ji21) < (a0.size : Int)) = true:=decide_eq_true c23
            clear c23
            obtain rfl:=Option.some.inj H
            obtain ⟨Ao25,co25,eo25⟩:=Kd.R_slice HO_3.out
            subst eo25
            have p18 : 0 ≤ (0 : Int):=(by omega)
            have q18 : 0 < a0.size:=(by have : (0 : Int) < (a0.size : Int):=of_decide_eq_true (by first | (with_reducible assumption) | assumption);omega)
            have hx18 : ∀ h : 0 < a0.size,((a0[0]'h).toNat : Int) = bt a0 0:=bt_at a0 0
            clear p18
            have qi18 : (0 < (a0.size : Int)) = True:=eq_true (of_decide_eq_true (by first | (with_reducible assumption) | assumption))
            replace q18:=eq_true q18
            have p24 : 0 ≤ ((ji21) : Int):=of_decide_eq_true (by first | (with_reducible assumption) | assumption)
            have q24 : (ji21) < (a0.size : Int):=of_decide_eq_true (by first | (with_reducible assumption) | assumption)
            have hx24:=bt_at a0 (ji21)
            replace p24:=eq_true p24
            replace q24:=eq_true q24
            go_wp2
            go_ret
            exact ⟨by first | rfl | (simp [errW_none,errW_some] <;> rfl) | (simp only [← hji21];first | rfl | (simp [errW_none,errW_some] <;> rfl)) | (simp [*,errW_none,errW_some] <;> rfl) | (exfalso;contradiction),by repeat (first | (with_reducible first | exact HB.out | apply below_alloc | apply pw_below_drewN | apply below_drew1) | exact HB.out)⟩
           ·rw [if_neg c23] at H
            exact absurd H (by simp)
          ·rw [if_neg c22] at H
           exact absurd H (by simp)
        ·rw [if_neg c17] at H
         exact absurd H (by simp)
def rebusref07_Decimal.f : Nat → Int → Option (ByteArray)
 | 0,_=>none
 | k + 1,a0=>if a0 < 10 then (some (strOfNums (([(wrap64 (48 + a0)) % 256] : List Int)))) else ((rebusref07_Decimal.f k (wrap64 (Int.tdiv a0 10))).bind fun t209=>((some (([(wrap64 (48 + (Int.tmod a0 10))) % 256] : List Int) : List Int)).bind fun y210=>(if t209.size + (strOfNums y210).size ≤ 9223372036854775807 then (some (t209 ++ (strOfNums y210))) else (none))))
def rebusref07_Decimal.T3 : Bool × List (List Nat × List Nat):=(true,[([],[]),([0],[0]),([1],[1]),([],[]),([3],[3]),([4],[4]),([5],[5]),([6],[6]),([7],[7]),([2,8],[2,8]),([9,2,0,1,2,3,4,5,6,7,8,9],[9])])
def rebusref07_Decimal.B3 : List Nat:=[0,1,3,0,8,24,56,120,248,511,1023]
theorem rebusref07_Decimal.tab3 : rtab .any (opsOf Tryz.f20 3) = rebusref07_Decimal.T3:=by kernel_rfl
theorem rebusref07_Decimal.bits3 : waitsOk rebusref07_Decimal.T3.2 rebusref07_Decimal.B3 = true:=by kernel_rfl
set_option maxHeartbeats 8000000 in
set_option maxRecDepth 100000 in
theorem rebusref07_Decimal.calls (k : Nat) : ∀ (a0 : Int) (r : ByteArray) (w : World) (h : rebusref07_Decimal.f k a0 = some r),
  Calls Tryz.prog 20 #[.int .i64 a0] w fun e w'=>e = .returned (.string r) ∧ Below w.heap.size w w':=by
 induction k using Nat.strongRecOn with
 | _ k ih =>
 intro a0 r w h
 cases k with
 | zero=>exact absurd h (by simp [rebusref07_Decimal.f])
 | succ k =>
 simp only [rebusref07_Decimal.f] at h
 have HB:=Aside0.mk (Below.refl w.heap.size w)
 have H : (if a0 < 10 then (some (strOfNums (([(wrap64 (48 + a0)) % 256] : List Int)))) else ((rebusref07_Decimal.f k (wrap64 (Int.tdiv a0 10))).bind fun t209=>((some (([(wrap64 (48 + (Int.tmod a0 10))) % 256] : List Int) : List Int)).bind fun y210=>(if t209.size + (strOfNums y210).size ≤ 9223372036854775807 then (some (t209 ++ (strOfNums y210))) else (none))))) = some r:=h
 clear h
 by_cases c2 : a0 < 10
 ·rw [if_pos c2] at H
  have c2b0 : decide (a0 < 10) = true:=decide_eq_true c2
  clear c2
  obtain ⟨y206,hy206⟩ : ∃ y_ : List Int,y_ = (([(wrap64 (48 + a0)) % 256] : List Int)):=⟨_,rfl⟩
  replace H : (some (strOfNums y206)) = some r:=by first | (rw [hy206];with_reducible exact H) | (have H2_:=(Option.bind_some _ _).symm.trans H;rw [hy206];with_reducible exact H2_) | (have H2_:=(Option.bind_some _ _).symm.trans H;with_reducible exact H2_) | with_reducible exact H | (rw [hy206];exact H) | exact H
  have Ny206:=Aside0.mk hy206
  clear hy206
  obtain rfl:=Option.some.inj H
  go_enter Tryz.func20,Tryz.ntmps20
  go_wp2_with (first | ((with_reducible refine gate_dst (N:=8) rfl ?_);refine Kd.R_lit (Kd.int .u8) _ 5 ?hg (N:=8) ?hd (xs:=([(wrap64 (48 + a0)) % 256] : List Int)) (inner:=[.int .u8 ((wrap64 (48 + a0)) % 256)]) (ok:=fun _=>True) (okp:=fun _=>True) ?hr ?hp (fun _ hk=>hk) trivial (Below.refl _ _) (Nat.le_refl _) (by simp) ?_;(case hd=>rfl);(case hg=>rfl);(case hr=>first | (go_simp;done) | (go_simp;rfl));(case hp=>exact (Reps.one (show Kd.M (Kd.int .u8) _ _ _ ((wrap64 (48 + a0)) % 256) [.int .u8 ((wrap64 (48 + a0)) % 256)] from rfl) (Reps.none _ _)));intro v207 w3 ho4 hb hg_ hnew_;clear hg_ hnew_;(first | rw [← Ny206.out] at ho4 | (simp only [Int.reduceToNat] at ho4;rw [← Ny206.out] at ho4));have n0_:=Aside0.mk (Kd.R_lower ho4 (below_size (by repeat (first | (with_reducible first | exact HB.out | apply below_alloc | apply pw_below_drewN | apply below_drew1) | exact HB.out))));have n1_:=Aside0.mk (below_step (by repeat (first | (with_reducible first | exact HB.out | apply below_alloc | apply pw_below_drewN | apply below_drew1) | exact HB.out)) hb);clear HB;have HO208:=n0_;have HB:=n1_;clear n0_ n1_;clear hb ho4;have hcv5:=own_string (P:=Tryz.prog) Tryz.underlying55 Tryz.underlying5 Tryz.underlying9 (Kd.own_of_R HO208.out)))
  go_ret
  exact ⟨by first | rfl | (simp [errW_none,errW_some] <;> rfl) | (simp [*,errW_none,errW_some] <;> rfl) | (exfalso;contradiction),by repeat (first | (with_reducible first | exact HB.out | apply below_alloc | apply pw_below_drewN | apply below_drew1) | exact HB.out)⟩
 ·rw [if_neg c2] at H
  have c2b0 : decide (a0 < 10) = false:=decide_eq_false c2
  clear c2
  replace H:=Option.bind_eq_some_iff.mp H
  obtain ⟨t209,A60,H⟩:=H
  replace H : ((some (([(wrap64 (48 + (Int.tmod a0 10))) % 256] : List Int) : List Int)).bind fun y210=>(if t209.size + (strOfNums y210).size ≤ 9223372036854775807 then (some (t209 ++ (strOfNums y210))) else (none))) = some r:=H
  have A6:=Aside0.mk A60
  clear A60
  obtain ⟨y210,hy210⟩ : ∃ y_ : List Int,y_ = (([(wrap64 (48 + (Int.tmod a0 10))) % 256] : List Int)):=⟨_,rfl⟩
  replace H : (if t209.size + (strOfNums y210).size ≤ 9223372036854775807 then (some (t209 ++ (strOfNums y210))) else (none)) = some r:=by first | (rw [hy210];with_reducible exact H) | (have H2_:=(Option.bind_some _ _).symm.trans H;rw [hy210];with_reducible exact H2_) | (have H2_:=(Option.bind_some _ _).symm.trans H;with_reducible exact H2_) | with_reducible exact H | (rw [hy210];exact H) | exact H
  have Ny210:=Aside0.mk hy210
  clear hy210
  by_cases c7 : t209.size + (strOfNums y210).size ≤ 9223372036854775807
  ·rw [if_pos c7] at H
   have c7b0:=eq_true c7
   have c7b1 : decide (t209.size + (strOfNums y210).size ≤ 9223372036854775807) = true:=decide_eq_true c7
   try have c7b2 : (9223372036854775807 < t209.size + (strOfNums y210).size) = False:=eq_false (Nat.not_lt.2 c7)
   obtain rfl:=Option.some.inj H
   go_enter Tryz.func20,Tryz.ntmps20
   try go_wp2
   have n0_:=Aside0.mk (below_drew1 HB.out)
   clear HB
   have HB:=n0_
   clear n0_
   refine start_ (n:=11) (S:=fun w'=>True) (ds:=[]) #[false,false,false,false,false,false,false,false,false,false,false] (by kernel_rfl) rfl rfl trivial (fun hHeld=>?_);refine with_tabW rebusref07_Decimal.tab3 rebusref07_Decimal.bits3 (fun HT_ HW_=>?_)
   generalize w.drew = w8 at HB hHeld ⊢
   refine pure_ (i:=0) (N:=some 10) (v:=?_) (a':=?_) #[true,false,false,false,false,false,false,false,false,false,false] rfl rfl (any_of HT_.out (by kernel_rfl)) (fun _ _ _ h=>h) (Or.inl ⟨by rfl,?_⟩) ?_ ?_
   rotate_left
   ·intro w'
    go_simp
    with_reducible rfl
   rotate_left
   ·simp only [Act.put,List.setIfInBounds_toArray,List.set_cons_zero,List.set_cons_succ,i64_w,i32_w]
    rfl
   refine pure_ (i:=1) (N:=some 11) (v:=?_) (a':=?_) #[true,true,false,false,false,false,false,false,false,false,false] rfl rfl (any_of HT_.out (by kernel_rfl)) (fun _ _ _ h=>h) (Or.inl ⟨by rfl,?_⟩) ?_ ?_
   rotate_left
   ·intro w'
    go_simp
    with_reducible rfl
   rotate_left
   ·simp only [Act.put,List.setIfInBounds_toArray,List.set_cons_zero,List.set_cons_succ,i64_w,i32_w]
    rfl
   refine pure_ (i:=3) (N:=some 13) (v:=?_) (a':=?_) #[true,true,false,true,false,false,false,false,false,false,false] rfl rfl (any_of HT_.out (by kernel_rfl)) (fun _ _ _ h=>h) (Or.inl ⟨by rfl,?_⟩) ?_ ?_
   rotate_left
   ·intro w'
    go_simp
    with_reducible rfl
   rotate_left
   ·simp only [Act.put,List.setIfInBounds_toArray,List.set_cons_zero,List.set_cons_succ,i64_w,i32_w]
    rfl
   refine pure_ (i:=4) (N:=some 14) (v:=?_) (a':=?_) #[true,true,false,true,true,false,false,false,false,false,false] rfl rfl (any_of HT_.out (by kernel_rfl)) (fun _ _ _ h=>h) (Or.inl ⟨by rfl,?_⟩) ?_ ?_
   rotate_left
   ·intro w'
    go_simp
    with_reducible rfl
   rotate_left
   ·simp only [Act.put,List.setIfInBounds_toArray,List.set_cons_zero,List.set_cons_succ,i64_w,i32_w]
    rfl
   refine pure_ (i:=5) (N:=some 15) (v:=?_) (a':=?_) #[true,true,false,true,true,true,false,false,false,false,false] rfl rfl (any_of HT_.out (by kernel_rfl)) (fun _ _ _ h=>h) (Or.inl ⟨by rfl,?_⟩) ?_ ?_
   rotate_left
   ·intro w'
    go_simp
    with_reducible rfl
   rotate_left
   ·simp only [Act.put,List.setIfInBounds_toArray,List.set_cons_zero,List.set_cons_succ,i64_w,i32_w]
    rfl
   refine pure_ (i:=6) (N:=some 16) (v:=?_) (a':=?_) #[true,true,false,true,true,true,true,false,false,false,false] rfl rfl (any_of HT_.out (by kernel_rfl)) (fun _ _ _ h=>h) (Or.inl ⟨by rfl,?_⟩) ?_ ?_
   rotate_left
   ·intro w'
    go_simp
    with_reducible rfl
   rotate_left
   ·simp only [Act.put,List.setIfInBounds_toArray,List.set_cons_zero,List.set_cons_succ,i64_w,i32_w]
    rfl
   refine join_ (σ:=Value) 2 #[true,true,true,true,true,true,true,true,true,false,false] (fun s_=>[(12,.string t209),(17,s_),(18,.string (strOfNums y210))]) (fun s_ w'=>(Kd.R (Kd.int .u8) 5 w' w.heap.size (fun _=>True) s_ y210) ∧ (Below w.heap.size w w')) ?_ ?_
   rotate_left
   ·intro hCont
    refine two_ (i:=2) (j:=7) (Ni:=some 12) (Nj:=some 17) #[true,true,true,true,true,true,true,false,false,false,false] #[true,true,false,true,true,true,true,true,false,false,false] rfl rfl rfl rfl (two_of HT_.out (by kernel_rfl)) (by decide) (by decide) (fun K hK=>?_) (fun K hK=>?_)
    ·skip
     refine goes_ Tryz.func20 (by kernel_rfl) rfl #[.int .i64 (wrap64 (Int.tdiv a0 10))] (by rfl) rfl rfl (by (try simp only [List.map_toArray,List.map_cons,List.map_nil]);first | done | rfl | (simp only [List.length_drop,List.length_take];rfl)) ?_
     with_reducible refine (ih k (by omega) (wrap64 (Int.tdiv a0 10)) t209 _ A6.out).mono ?_
     rintro e w9 ⟨rfl,hb⟩
     refine ⟨_,rfl,?_⟩
     have n0_:=Aside0.mk (below_step (by repeat (first | (with_reducible first | exact HB.out | apply below_alloc | apply pw_below_drewN | apply below_drew1) | exact HB.out)) hb)
     clear HB
     have HB:=n0_
     clear n0_
     (try clear hb)
     (try clear hb2)
     (try clear hk)
     (try clear hi)
     refine hK.out _ _ trivial (fun hHeld=>?_)
     clear hK K
     refine norm_ (a':=?_) ?_ ?_
     rotate_left
     ·show Act.put _ (some 12) _ = _
      simp only [Act.put,List.setIfInBounds_toArray,List.set_cons_zero,List.set_cons_succ,i64_w,i32_w]
      rfl
     refine one_ (i:=7) (N:=some 17) #[true,true,true,true,true,true,true,true,false,false,false] rfl rfl (one_of HT_.out (by kernel_rfl)) (by decide) (fun K hK=>?_)
     refine Kd.R_lit_step (Kd.int .u8) _ 5 ?hg (N:=17) ?hd (xs:=([(wrap64 (48 + (Int.tmod a0 10))) % 256] : List Int)) (inner:=[.int .u8 ((wrap64 (48 + (Int.tmod a0 10))) % 256)]) (ok:=fun _=>True) (okp:=fun _=>True) ?hr ?hp (fun _ hk=>hk) trivial (Below.refl _ _) (Nat.le_refl _) (by simp) ?_;(case hd=>rfl);(case hg=>rfl);(case hr=>first | (go_simp;done) | (go_simp;rfl));(case hp=>exact (Reps.one (show Kd.M (Kd.int .u8) _ _ _ ((wrap64 (48 + (Int.tmod a0 10))) % 256) [.int .u8 ((wrap64 (48 + (Int.tmod a0 10))) % 256)] from rfl) (Reps.none _ _)))
     intro v211 w10 ho11 hb hg_ hnew_
     clear hg_ hnew_
     (first | rw [← Ny210.out] at ho11 | (simp only [Int.reduceToNat] at ho11;rw [← Ny210.out] at ho11))
     have n0_:=Aside0.mk (Kd.R_lower ho11 (below_size (by repeat (first | (with_reducible first | exact HB.out | apply below_alloc | apply pw_below_drewN | apply below_drew1) | exact HB.out))))
     have n1_:=Aside0.mk (below_step (by repeat (first | (with_reducible first | exact HB.out | apply below_alloc | apply pw_below_drewN | apply below_drew1) | exact HB.out)) hb)
     clear HB
     have HO212:=n0_
     have HB:=n1_
     clear n0_ n1_
     clear hb ho11
     refine hK.out _ _ trivial (fun hHeld=>?_)
     clear hK K
     refine norm_ (a':=?_) ?_ ?_
     rotate_left
     ·show Act.put _ (some 17) _ = _
      simp only [Act.put,List.setIfInBounds_toArray,List.set_cons_zero,List.set_cons_succ,i64_w,i32_w]
      rfl
     refine one_ (i:=8) (N:=some 18) #[true,true,true,true,true,true,true,true,true,false,false] rfl rfl (one_of HT_.out (by kernel_rfl)) (by decide) (fun K hK=>?_)
     have hcv12:=own_string (P:=Tryz.prog) Tryz.underlying55 Tryz.underlying5 Tryz.underlying9 (Kd.own_of_R HO212.out)
     refine value_ (w1:=?_) (v:=?_) (by rfl) rfl ?_ ?_
     rotate_left 2
     ·go_simp
      constructor
      ·rfl
      ·rfl
     clear hcv12
     refine hK.out _ _ trivial (fun hHeld=>?_)
     clear hK K
     refine norm_ (a':=?_) ?_ ?_
     rotate_left
     ·show Act.put _ (some 18) _ = _
      simp only [Act.put,List.setIfInBounds_toArray,List.set_cons_zero,List.set_cons_succ,i64_w,i32_w]
      rfl
     exact norm_ (by simp only [putAll,Act.put,List.setIfInBounds_toArray,List.set_cons_zero,List.set_cons_succ]) (hCont (v211) _ ⟨(by (with_reducible repeat (first | apply Kd.R_alloc | apply Kd.R_drewN | apply Kd.R_drew));exact HO212.out),(by repeat (first | (with_reducible first | exact HB.out | apply below_alloc | apply pw_below_drewN | apply below_drew1) | exact HB.out))⟩)
    ·skip
     refine Kd.R_lit_step (Kd.int .u8) _ 5 ?hg (N:=17) ?hd (xs:=([(wrap64 (48 + (Int.tmod a0 10))) % 256] : List Int)) (inner:=[.int .u8 ((wrap64 (48 + (Int.tmod a0 10))) % 256)]) (ok:=fun _=>True) (okp:=fun _=>True) ?hr ?hp (fun _ hk=>hk) trivial (Below.refl _ _) (Nat.le_refl _) (by simp) ?_;(case hd=>rfl);(case hg=>rfl);(case hr=>first | (go_simp;done) | (go_simp;rfl));(case hp=>exact (Reps.one (show Kd.M (Kd.int .u8) _ _ _ ((wrap64 (48 + (Int.tmod a0 10))) % 256) [.int .u8 ((wrap64 (48 + (Int.tmod a0 10))) % 256)] from rfl) (Reps.none _ _)))
     intro v211 w9 ho10 hb hg_ hnew_
     clear hg_ hnew_
     (first | rw [← Ny210.out] at ho10 | (simp only [Int.reduceToNat] at ho10;rw [← Ny210.out] at ho10))
     have n0_:=Aside0.mk (Kd.R_lower ho10 (below_size (by repeat (first | (with_reducible first | exact HB.out | apply below_alloc | apply pw_below_drewN | apply below_drew1) | exact HB.out))))
     have n1_:=Aside0.mk (below_step (by repeat (first | (with_reducible first | exact HB.out | apply below_alloc | apply pw_below_drewN | apply below_drew1) | exact HB.out)) hb)
     clear HB
     have HO212:=n0_
     have HB:=n1_
     clear n0_ n1_
     clear hb ho10
     refine hK.out _ _ trivial (fun hHeld=>?_)
     clear hK K
     refine norm_ (a':=?_) ?_ ?_
     rotate_left
     ·show Act.put _ (some 17) _ = _
      simp only [Act.put,List.setIfInBounds_toArray,List.set_cons_zero,List.set_cons_succ,i64_w,i32_w]
      rfl
     refine two_ (i:=2) (j:=8) (Ni:=some 12) (Nj:=some 18) #[true,true,true,true,true,true,true,true,false,false,false] #[true,true,false,true,true,true,true,true,true,false,false] rfl rfl rfl rfl (two_of HT_.out (by kernel_rfl)) (by decide) (by decide) (fun K hK=>?_) (fun K hK=>?_)
     ·skip
      refine goes_ Tryz.func20 (by kernel_rfl) rfl #[.int .i64 (wrap64 (Int.tdiv a0 10))] (by rfl) rfl rfl (by (try simp only [List.map_toArray,List.map_cons,List.map_nil]);first | done | rfl | (simp only [List.length_drop,List.length_take];rfl)) ?_
      with_reducible refine (ih k (by omega) (wrap64 (Int.tdiv a0 10)) t209 _ A6.out).mono ?_
      rintro e w11 ⟨rfl,hb⟩
      refine ⟨_,rfl,?_⟩
      have n0_:=Aside0.mk (Kd.R_below (by (with_reducible repeat (first | apply Kd.R_alloc | apply Kd.R_drewN | apply Kd.R_drew));exact HO212.out) hb)
      have n1_:=Aside0.mk (below_step (by repeat (first | (with_reducible first | exact HB.out | apply below_alloc | apply pw_below_drewN | apply below_drew1) | exact HB.out)) hb)
      clear HO212
      clear HB
      have HO212:=n0_
      have HB:=n1_
      clear n0_ n1_
      (try clear hb)
      (try clear hb2)
      (try clear hk)
      (try clear hi)
      refine hK.out _ _ trivial (fun hHeld=>?_)
      clear hK K
      refine norm_ (a':=?_) ?_ ?_
      rotate_left
      ·show Act.put _ (some 12) _ = _
       simp only [Act.put,List.setIfInBounds_toArray,List.set_cons_zero,List.set_cons_succ,i64_w,i32_w]
       rfl
      refine one_ (i:=8) (N:=some 18) #[true,true,true,true,true,true,true,true,true,false,false] rfl rfl (one_of HT_.out (by kernel_rfl)) (by decide) (fun K hK=>?_)
      have hcv12:=own_string (P:=Tryz.prog) Tryz.underlying55 Tryz.underlying5 Tryz.underlying9 (Kd.own_of_R HO212.out)
      refine value_ (w1:=?_) (v:=?_) (by rfl) rfl ?_ ?_
      rotate_left 2
      ·go_simp
       constructor
       ·rfl
       ·rfl
      clear hcv12
      refine hK.out _ _ trivial (fun hHeld=>?_)
      clear hK K
      refine norm_ (a':=?_) ?_ ?_
      rotate_left
      ·show Act.put _ (some 18) _ = _
       simp only [Act.put,List.setIfInBounds_toArray,List.set_cons_zero,List.set_cons_succ,i64_w,i32_w]
       rfl
      exact norm_ (by simp only [putAll,Act.put,List.setIfInBounds_toArray,List.set_cons_zero,List.set_cons_succ]) (hCont (v211) _ ⟨(by (with_reducible repeat (first | apply Kd.R_alloc | apply Kd.R_drewN | apply Kd.R_drew));exact HO212.out),(by repeat (first | (with_reducible first | exact HB.out | apply below_alloc | apply pw_below_drewN | apply below_drew1) | exact HB.out))⟩)
     ·skip
      have hcv11:=own_string (P:=Tryz.prog) Tryz.underlying55 Tryz.underlying5 Tryz.underlying9 (Kd.own_of_R HO212.out)
      refine value_ (w1:=?_) (v:=?_) (by rfl) rfl ?_ ?_
      rotate_left 2
      ·go_simp
       constructor
       ·rfl
       ·rfl
      clear hcv11
      refine hK.out _ _ trivial (fun hHeld=>?_)
      clear hK K
      refine norm_ (a':=?_) ?_ ?_
      rotate_left
      ·show Act.put _ (some 18) _ = _
       simp only [Act.put,List.setIfInBounds_toArray,List.set_cons_zero,List.set_cons_succ,i64_w,i32_w]
       rfl
      refine one_ (i:=2) (N:=some 12) #[true,true,true,true,true,true,true,true,true,false,false] rfl rfl (one_of HT_.out (by kernel_rfl)) (by decide) (fun K hK=>?_)
      refine goes_ Tryz.func20 (by kernel_rfl) rfl #[.int .i64 (wrap64 (Int.tdiv a0 10))] (by rfl) rfl rfl (by (try simp only [List.map_toArray,List.map_cons,List.map_nil]);first | done | rfl | (simp only [List.length_drop,List.length_take];rfl)) ?_
      with_reducible refine (ih k (by omega) (wrap64 (Int.tdiv a0 10)) t209 _ A6.out).mono ?_
      rintro e w12 ⟨rfl,hb⟩
      refine ⟨_,rfl,?_⟩
      have n0_:=Aside0.mk (Kd.R_below (by (with_reducible repeat (first | apply Kd.R_alloc | apply Kd.R_drewN | apply Kd.R_drew));exact HO212.out) hb)
      have n1_:=Aside0.mk (below_step (by repeat (first | (with_reducible first | exact HB.out | apply below_alloc | apply pw_below_drewN | apply below_drew1) | exact HB.out)) hb)
      clear HO212
      clear HB
      have HO212:=n0_
      have HB:=n1_
      clear n0_ n1_
      (try clear hb)
      (try clear hb2)
      (try clear hk)
      (try clear hi)
      refine hK.out _ _ trivial (fun hHeld=>?_)
      clear hK K
      refine norm_ (a':=?_) ?_ ?_
      rotate_left
      ·show Act.put _ (some 12) _ = _
       simp only [Act.put,List.setIfInBounds_toArray,List.set_cons_zero,List.set_cons_succ,i64_w,i32_w]
       rfl
      exact norm_ (by simp only [putAll,Act.put,List.setIfInBounds_toArray,List.set_cons_zero,List.set_cons_succ]) (hCont (v211) _ ⟨(by (with_reducible repeat (first | apply Kd.R_alloc | apply Kd.R_drewN | apply Kd.R_drew));exact HO212.out),(by repeat (first | (with_reducible first | exact HB.out | apply below_alloc | apply pw_below_drewN | apply below_drew1) | exact HB.out))⟩)
   rintro v211 w13 ⟨h0_,h1_⟩
   have n0_ : Aside0 (Kd.R (Kd.int .u8) 5 w13 w.heap.size (fun _=>True) v211 y210):=⟨h0_⟩
   have n1_ : Aside0 (Below w.heap.size w w13):=⟨h1_⟩
   clear HB
   clear h0_ h1_
   have HO212:=n0_
   have HB:=n1_
   clear n0_ n1_
   have hHeld:=trivial
   refine norm_ (a':=?_) ?_ ?_
   rotate_left
   ·simp only [putAll,Act.put,List.setIfInBounds_toArray,List.set_cons_zero,List.set_cons_succ]
    rfl
   refine pure_ (i:=9) (N:=some 19) (v:=?_) (a':=?_) #[true,true,true,true,true,true,true,true,true,true,false] rfl rfl (any_of HT_.out (by kernel_rfl)) (fun _ _ _ h=>h) (Or.inl ⟨by rfl,?_⟩) ?_ ?_
   rotate_left
   ·intro w'
    go_simp
    with_reducible rfl
   rotate_left
   ·simp only [Act.put,List.setIfInBounds_toArray,List.set_cons_zero,List.set_cons_succ,i64_w,i32_w]
    rfl
   refine pure_ (i:=10) (N:=some 2) (v:=?_) (a':=?_) #[true,true,true,true,true,true,true,true,true,true,true] rfl rfl (any_of HT_.out (by kernel_rfl)) (fun _ _ _ h=>h) (Or.inl ⟨by rfl,?_⟩) ?_ ?_
   rotate_left
   ·intro w'
    go_simp
    with_reducible rfl
   rotate_left
   ·simp only [Act.put,List.setIfInBounds_toArray,List.set_cons_zero,List.set_cons_succ,i64_w,i32_w]
    rfl
   refine done_ (done_of HT_.out (by kernel_rfl)) ?_
   try go_wp2
   go_ret
   exact ⟨by first | rfl | (simp [errW_none,errW_some] <;> rfl) | (simp [*,errW_none,errW_some] <;> rfl) | (exfalso;contradiction),by repeat (first | (with_reducible first | exact HB.out | apply below_alloc | apply pw_below_drewN | apply below_drew1) | exact HB.out)⟩
  ·rw [if_neg c7] at H
   exact absurd H (by simp)
end Go.Proofs.YtpfbcepgmigeiaaGreatDoor.Q
end
section
namespace Go.Proofs.YtpfbcepgmigeiaaGreatDoor.Q
open Go.RowKit Go.Proofs.YtpfbcepgmigeiaaGreatDoorW.PrintWords Go.Proofs.YtpfbcepgmigeiaaGreatDoorW.PrintLast Go.Proofs.YtpfbcepgmigeiaaGreatDoorW.PrintMore
set_option linter.unusedVariables false
set_option linter.unusedSimpArgs false
open Go.Proofs.YtpfbcepgmigeiaaGreatDoorS
theorem decode_le4 (s : ByteArray) (i : Nat) : (Utf8.decode s i).2 ≤ 4:=by
  rw [Lib.decode_at]
  unfold Lib.decodeN
  repeat' split
  all_goals (dsimp only;omega)
theorem next_eq2 (k : Nat) (hk : 10 ≤ k) (s : ByteArray) (i : Nat) (hi : i < s.size) (hz : s.size ≤ 140737488355328) : rebusref01_Next.f k s (i : Int) = some (((Utf8.decode s i).1 : Int),((Utf8.decode s i).2 : Int)):=by
  obtain ⟨m,rfl⟩ : ∃ m,k = m + 10:=⟨k - 10,by omega⟩
  exact next_eq m s i hi hz
theorem runes_l0 (s : ByteArray) (hz : s.size ≤ 1048576) : ∀ (f i k : Nat) (xs : List Int),s.size ≤ i + f → f + 10 < k → xs.length ≤ i → rebusref01_Runes.l0 k s xs (i : Int) = some (xs ++ (ulist s f i).map fun t=>(t.2.1 : Int)):=by
  intro f
  induction f with
  | zero =>
    intro i k xs hi hk hx
    obtain ⟨k,rfl⟩ : ∃ m,k = m + 1:=⟨k - 1,by omega⟩
    simp only [rebusref01_Runes.l0]
    rw [if_neg (by omega)]
    simp [ulist]
  | succ f ih =>
    intro i k xs hi hk hx
    obtain ⟨k,rfl⟩ : ∃ m,k = m + 1:=⟨k - 1,by omega⟩
    by_cases hlt : i < s.size
    · have h4:=decode_le4 s i
      have h1:=width_pos s i hlt
      have hih:=ih (i + (Utf8.decode s i).2) k (xs ++ [((Utf8.decode s i).1 : Int)]) (by omega) (by omega) (by simp only [List.length_append,List.length_singleton];omega)
      simp only [rebusref01_Runes.l0]
      rw [if_pos (by omega),next_eq2 k (by omega) s i hlt (by omega)]
      simp only [Option.bind_some]
      rw [if_pos (by omega),w64s (by omega) (by omega),ulist_step s f i hlt]
      rw [show ((i : Int) + ((Utf8.decode s i).2 : Int)) = ((i + (Utf8.decode s i).2 : Nat) : Int) by omega,hih,List.append_assoc]
      rfl
    · simp only [rebusref01_Runes.l0]
      rw [if_neg (by omega),ulist_end s _ i hlt]
      simp
theorem runes_eq (s : ByteArray) (hz : s.size ≤ 1048576) (k : Nat) (hk : s.size + 10 < k) : rebusref01_Runes.f k s = some (urunes s):=by
  have:=runes_l0 s hz s.size 0 k [] (by omega) hk (Nat.le_refl _)
  exact this
theorem valid_l0 (s : ByteArray) (hz : s.size ≤ 1048576) : ∀ (f i k : Nat),s.size ≤ i + f → f + 10 < k → rebusref01_Valid.l0 k s (i : Int) = some ((ulist s f i).all fun t=>!(t.2.1 == 65533 && t.2.2 == 1)):=by
  intro f
  induction f with
  | zero =>
    intro i k hi hk
    obtain ⟨k,rfl⟩ : ∃ m,k = m + 1:=⟨k - 1,by omega⟩
    simp only [rebusref01_Valid.l0]
    rw [if_neg (by omega)]
    simp [ulist]
  | succ f ih =>
    intro i k hi hk
    obtain ⟨k,rfl⟩ : ∃ m,k = m + 1:=⟨k - 1,by omega⟩
    by_cases hlt : i < s.size
    · have h4:=decode_le4 s i
      have h1:=width_pos s i hlt
      have hih:=ih (i + (Utf8.decode s i).2) k (by omega) (by omega)
      simp only [rebusref01_Valid.l0]
      rw [if_pos (by omega),next_eq2 k (by omega) s i hlt (by omega)]
      simp only [Option.bind_some]
      rw [w64s (by omega) (by omega),ulist_step s f i hlt,List.all_cons]
      rw [show ((i : Int) + ((Utf8.decode s i).2 : Int)) = ((i + (Utf8.decode s i).2 : Nat) : Int) by omega,hih]
      by_cases c1 : (Utf8.decode s i).1 = 65533
      · rw [if_pos (by omega)]
        by_cases c2 : (Utf8.decode s i).2 = 1
        · rw [if_pos (by omega),c1,c2];rfl
        · rw [if_neg (by omega)]
          have : ((Utf8.decode s i).2 == 1) = false:=by simpa using c2
          rw [this,Bool.and_false];rfl
      · rw [if_neg (by omega)]
        have : ((Utf8.decode s i).1 == 65533) = false:=by simpa using c1
        rw [this,Bool.false_and];rfl
    · simp only [rebusref01_Valid.l0]
      rw [if_neg (by omega),ulist_end s _ i hlt]
      rfl
theorem valid_eq (s : ByteArray) (hz : s.size ≤ 1048576) (k : Nat) (hk : s.size + 10 < k) : rebusref01_Valid.f k s = some (uvalid s):=valid_l0 s hz s.size 0 k (by omega) hk
def rline (s : ByteArray) : Bool:=decide (s.size ≤ 960) && (uvalid s && ((urunes s).all (fun r=>!(decide (r < 32) || r == 127)) && (s.toList.isEmpty || (!(bt s 0 == 32) && !(bt s ((s.size : Int) - 1) == 32)))))
theorem line_l0 (s : ByteArray) (hz : s.size ≤ 1048576) (l : List Int) (hl : l.length ≤ 1048576) : ∀ (d i k : Nat),i + d = l.length → d < k → rebusref21_Line.l0 k s l (i : Int) = some ((l.drop i).all (fun r=>!(decide (r < 32) || r == 127)) && (s.toList.isEmpty || (!(bt s 0 == 32) && !(bt s ((s.size : Int) - 1) == 32)))):=by
  intro d
  induction d with
  | zero =>
    intro i k hi hk
    obtain ⟨k,rfl⟩ : ∃ m,k = m + 1:=⟨k - 1,by omega⟩
    simp only [rebusref21_Line.l0]
    rw [if_neg (by omega),List.drop_of_length_le (by omega)]
    simp only [List.all_nil,Bool.true_and]
    by_cases h0 : s.toList = ([] : List UInt8)
    · rw [if_pos h0,h0];rfl
    · have hp : 0 < s.size:=by
        rcases Nat.eq_zero_or_pos s.size with e | e
        · exfalso
          apply h0
          rw [ByteArray.toList_eq]
          apply List.eq_nil_of_length_eq_zero
          rw [Array.length_toList];exact e
        · exact e
      have hne : s.toList.isEmpty = false:=by
        cases h : s.toList with
        | nil=>exact absurd h h0
        | cons a b=>rfl
      rw [if_neg h0,if_pos (by omega),hne,Bool.false_or,w64s (by omega) (by omega)]
      by_cases c1 : bt s 0 = 32
      · rw [if_pos c1,c1];rfl
      · have : (bt s 0 == 32) = false:=by simpa using c1
        rw [if_neg c1,if_pos (by omega),if_pos (by omega),this]
        simp only [Bool.not_false,Bool.true_and]
        rfl
  | succ d ih =>
    intro i k hi hk
    obtain ⟨k,rfl⟩ : ∃ m,k = m + 1:=⟨k - 1,by omega⟩
    have hih:=ih (i + 1) k (by omega) (by omega)
    have hil : i < l.length:=by omega
    have er : rd l (i : Int) = l[i]:=by unfold rd;rw [List.getD_eq_getElem?_getD,Int.toNat_natCast,List.getElem?_eq_getElem hil];rfl
    simp only [rebusref21_Line.l0]
    rw [if_pos (by omega),if_pos (by omega),w64s (by omega) (by omega),er,List.drop_eq_getElem_cons hil,List.all_cons]
    by_cases c1 : l[i] < 32
    · rw [if_pos c1,decide_eq_true c1];rfl
    · rw [if_neg c1,decide_eq_false c1]
      by_cases c2 : l[i] = 127
      · rw [if_pos c2,c2];rfl
      · have : (l[i] == 127) = false:=by simpa using c2
        rw [if_neg c2,this]
        simp only [Bool.or_self,Bool.not_false,Bool.true_and]
        exact hih
theorem line_eq (s : ByteArray) (hz : s.size ≤ 1048576) (k : Nat) (hk : 2 * s.size + 20 < k) : rebusref21_Line.f k s = some (rline s):=by
  unfold rebusref21_Line.f rline
  obtain ⟨k,rfl⟩ : ∃ m,k = m + 1:=⟨k - 1,by omega⟩
  by_cases h : s.size ≤ 960
  · rw [if_neg (by omega),decide_eq_true h,Bool.true_and,valid_eq s hz _ (by omega)]
    simp only [Option.bind_some,rebusref21_Line.j0]
    cases hv : uvalid s with
    | false=>rfl
    | true =>
      simp only [Bool.not_true,Bool.false_eq_true,if_false,Bool.true_and]
      rw [runes_eq s hz _ (by omega)]
      simp only [Option.bind_some]
      have hl : (urunes s).length ≤ s.size:=by have:=ucount_le s;simpa [ucount,urunes] using this
      have:=line_l0 s hz (urunes s) (by omega) (urunes s).length 0 k (by omega) (by omega)
      rw [List.drop_zero] at this
      exact this
  · rw [if_pos (by omega),decide_eq_false h]
    simp only [rebusref21_Line.j0,if_true]
    rfl
end Go.Proofs.YtpfbcepgmigeiaaGreatDoor.Q
end
section
namespace Go.Proofs.YtpfbcepgmigeiaaGreatDoor.Q
open Go.RowKit Go.Proofs.YtpfbcepgmigeiaaGreatDoorW.PrintWords Go.Proofs.YtpfbcepgmigeiaaGreatDoorW.PrintLast Go.Proofs.YtpfbcepgmigeiaaGreatDoorW.PrintMore
set_option linter.unusedVariables false
set_option linter.unusedSimpArgs false
open Go.Proofs.YtpfbcepgmigeiaaGreatDoorS
theorem idx_all (s : ByteArray) : ∀ (f p : Nat),decide (0 ≤ Lib.idxFuncFrom podd true s f p) = !((ulist s f p).all fun t=>!podd t.2.1)
  | 0,p=>rfl
  | f + 1,p=>by
    unfold Lib.idxFuncFrom ulist
    by_cases h : p < s.size
    · rw [if_pos h,if_pos h,List.all_cons]
      by_cases c : podd (Utf8.decode s p).1 = true
      · rw [if_pos c,c]
        simp
      · rw [if_neg c,idx_all s f,Bool.not_eq_true _ |>.mp c]
        simp
    · rw [if_neg h,if_neg h]
      rfl
theorem dropWhile_le {α : Type} (p : α → Bool) : ∀ l : List α,(l.dropWhile p).length ≤ l.length
  | []=>Nat.le_refl _
  | a :: l=>by
    rw [List.dropWhile_cons]
    split
    · have:=dropWhile_le p l
      simp only [List.length_cons];omega
    · exact Nat.le_refl _
theorem trimB_same (l : List UInt8) (c : UInt8) : (Lib.trimB l c == l) = (l.isEmpty || (!(l.head? == some c) && !(l.getLast? == some c))):=by
  cases l with
  | nil=>rfl
  | cons a t =>
    have hl : (a :: t).getLast? = (a :: t).reverse.head?:=(List.head?_reverse).symm
    rw [hl]
    obtain ⟨b,r,hr⟩ : ∃ b r,(a :: t).reverse = b :: r:=by
      cases h : (a :: t).reverse with
      | nil=>simp at h
      | cons b r=>exact ⟨b,r,rfl⟩
    have hlen : (a :: t).length = (b :: r).length:=by rw [← hr,List.length_reverse]
    unfold Lib.trimB Lib.trimRightB Lib.trimLeftB
    rw [hr]
    simp only [List.head?_cons,List.isEmpty_cons,Bool.false_or]
    by_cases h1 : b = c
    · have e1 : ((b :: r).dropWhile (· == c)) = r.dropWhile (· == c):=by rw [List.dropWhile_cons,if_pos (by simpa using h1)]
      have h2 : (Option.some b == some c) = true:=by rw [h1];simp
      rw [e1,h2,Bool.not_true,Bool.and_false]
      apply beq_eq_false_iff_ne.2
      intro h
      have h3:=congrArg List.length h
      have h4:=dropWhile_le (· == c) (r.dropWhile (· == c)).reverse
      have h5:=dropWhile_le (· == c) r
      rw [List.length_reverse] at h4
      rw [h3,hlen] at h4
      simp only [List.length_cons] at h4
      omega
    · have e1 : ((b :: r).dropWhile (· == c)) = b :: r:=by rw [List.dropWhile_cons,if_neg (by simpa using h1)]
      have h2 : (Option.some b == some c) = false:=by simpa using h1
      rw [e1,h2,← hr,List.reverse_reverse,Bool.not_false,Bool.and_true]
      by_cases h3 : a = c
      · have h4 : (Option.some a == some c) = true:=by rw [h3];simp
        rw [h4,List.dropWhile_cons,if_pos (by simpa using h3)]
        apply beq_eq_false_iff_ne.2
        intro h
        have h5:=congrArg List.length h
        have h6:=dropWhile_le (· == c) t
        rw [h5] at h6
        simp only [List.length_cons] at h6
        omega
      · have h4 : (Option.some a == some c) = false:=by simpa using h3
        rw [h4,List.dropWhile_cons,if_neg (by simpa using h3)]
        simp
theorem byte_eq (x : UInt8) : ((x.toNat : Int) == 32) = (Option.some x == some (32 : UInt8)):=by
  by_cases h : x = 32
  · rw [h];rfl
  · have h1 : ¬ (x.toNat : Int) = 32:=fun e=>h (UInt8.toNat_inj.1 (by show x.toNat = 32;omega))
    rw [beq_eq_false_iff_ne.2 h1]
    symm
    simpa using h
theorem rline_eq (s : ByteArray) : rline s = uline s:=by
  unfold rline uline
  have e0 : s.toList = s.data.toList:=ByteArray.toList_eq s
  have e1 : ((urunes s).all fun r=>!(decide (r < 32) || r == 127)) = !(decide (0 ≤ Lib.idxFunc podd true s)):=by
    unfold Lib.idxFunc
    rw [idx_all,Bool.not_not]
    unfold urunes uall
    rw [List.all_map]
    refine congrArg (fun p=>(ulist s s.size 0).all p) (funext fun t=>?_)
    show (!(decide ((t.2.1 : Int) < 32) || ((t.2.1 : Int) == 127))) = !podd t.2.1
    unfold podd
    congr 2
    · apply decide_eq_decide.2
      omega
    · by_cases h : t.2.1 = 127
      · rw [h];rfl
      · rw [beq_eq_false_iff_ne.2 h,beq_eq_false_iff_ne.2 (by omega)]
  have e2 : (s.toList.isEmpty || (!(bt s 0 == 32) && !(bt s ((s.size : Int) - 1) == 32))) = (Lib.trimB s.data.toList 32 == s.toList):=by
    rw [e0,trimB_same]
    rcases Nat.eq_zero_or_pos s.size with hz | hp
    · have : s.data.toList = []:=List.eq_nil_of_length_eq_zero (by rw [Array.length_toList];exact hz)
      rw [this];rfl
    · have hl : s.data.toList.length = s.size:=by rw [Array.length_toList];rfl
      have g0 : s.data.toList.head? = some (s[0]'hp):=by
        rw [List.head?_eq_getElem?,List.getElem?_eq_getElem (by omega)]
        rfl
      have g1 : s.data.toList.getLast? = some (s[s.size - 1]'(by omega)):=by
        rw [List.getLast?_eq_getElem?,hl,List.getElem?_eq_getElem (by omega)]
        rfl
      have b0 : bt s 0 = ((s[0]'hp).toNat : Int):=by
        unfold bt
        rw [dif_pos (show (0 : Int).toNat < s.size from hp)]
        rfl
      have b1 : bt s ((s.size : Int) - 1) = ((s[s.size - 1]'(by omega)).toNat : Int):=by
        unfold bt
        have e : ((s.size : Int) - 1).toNat = s.size - 1:=by omega
        simp only [e]
        rw [dif_pos (by omega)]
      rw [g0,g1,b0,b1,byte_eq,byte_eq]
  rw [e1,e2]
end Go.Proofs.YtpfbcepgmigeiaaGreatDoor.Q
end
section
namespace Go.Proofs.YtpfbcepgmigeiaaGreatDoor.Q
open Go.RowKit Go.Proofs.YtpfbcepgmigeiaaGreatDoorW.PrintWords Go.Proofs.YtpfbcepgmigeiaaGreatDoorW.PrintLast Go.Proofs.YtpfbcepgmigeiaaGreatDoorW.PrintMore
set_option linter.unusedVariables false
set_option linter.unusedSimpArgs false
open Go.Proofs.YtpfbcepgmigeiaaGreatDoorS
set_option maxHeartbeats 16000000 in
set_option maxRecDepth 1000000 in
theorem rebusref02_Class.calls (r : Int) (h0 : -2147483648 ≤ r) (h1 : r ≤ 2147483647) (w : World) :
    Calls Tryz.prog 84 #[.int .i32 r] w fun e w'=>e = .returned (.int .i64 (uclass r)) ∧ w = w':=by
  go_enter Tryz.func84,Tryz.ntmps84
  go_wp2
  all_goals go_ret
  all_goals refine ⟨congrArg (fun x=>Ending.returned (Value.int .i64 x)) ?_,rfl⟩
  all_goals try simp only [decide_eq_true_eq,decide_eq_false_iff_not,beq_iff_eq,beq_eq_false_iff_ne,bne_iff_ne,bne_eq_false_iff_eq,ne_eq,not_true_eq_false] at *
  all_goals (unfold uclass;repeat' split)
  all_goals omega
set_option maxHeartbeats 16000000 in
set_option maxRecDepth 1000000 in
theorem rebusref02_Upper.calls (r : Int) (h0 : -2147483648 ≤ r) (h1 : r ≤ 2147483647) (w : World) :
    Calls Tryz.prog 85 #[.int .i32 r] w fun e w'=>e = .returned (.int .i32 (uupper r)) ∧ w = w':=by
  go_enter Tryz.func85,Tryz.ntmps85
  go_wp2
  all_goals go_ret
  all_goals refine ⟨congrArg (fun x=>Ending.returned (Value.int .i32 x)) ?_,rfl⟩
  all_goals try simp only [decide_eq_true_eq,decide_eq_false_iff_not,beq_iff_eq,beq_eq_false_iff_ne,bne_iff_ne,bne_eq_false_iff_eq,ne_eq,not_true_eq_false] at *
  all_goals (unfold uupper;repeat' split)
  all_goals omega
end Go.Proofs.YtpfbcepgmigeiaaGreatDoor.Q
end
section
namespace Go.Proofs.YtpfbcepgmigeiaaGreatDoor.Q
open Go.RowKit Go.Proofs.YtpfbcepgmigeiaaGreatDoorW.PrintWords Go.Proofs.YtpfbcepgmigeiaaGreatDoorW.PrintLast Go.Proofs.YtpfbcepgmigeiaaGreatDoorW.PrintMore
set_option linter.unusedVariables false
set_option linter.unusedSimpArgs false
open Go.Proofs.YtpfbcepgmigeiaaGreatDoorS
theorem quiet_left {P : Program} {f : FuncId} {args : Array Value} {w : World} {n : Nat} {v : Value}
    (h : Calls P f args (w.drewN n) fun e w'=>e = .returned v ∧ w.drewN n = w') : Calls P f args (w.drewN n) fun e w'=>e = .returned v ∧ ∃ m,w' = w.drewN m :=
  h.mono fun _ _ ⟨he,hm⟩=>⟨he,n,hm.symm⟩
theorem urunes_range (s : ByteArray) : ∀ r ∈ urunes s,-2147483648 ≤ r ∧ r ≤ 2147483647:=by
  have hL : ∀ (f p : Nat),∀ t ∈ ulist s f p,t.2.1 ≤ 2147483647:=by
    intro f
    induction f with
    | zero=>intro p t ht;simp [ulist] at ht
    | succ f ih =>
      intro p t ht
      unfold ulist at ht
      split at ht
      · rcases List.mem_cons.1 ht with rfl | ht
        · exact decode_le s p
        · exact ih _ t ht
      · simp at ht
  intro r hr
  obtain ⟨t,ht,rfl⟩:=List.mem_map.1 hr
  have:=hL _ _ t ht
  omega
set_option maxHeartbeats 8000000 in
set_option maxRecDepth 1000000 in
theorem rebusref21_Letter.calls (s : ByteArray) (hz : s.size ≤ 1048576) (w : World) : Calls Tryz.prog 52 #[.string s] w fun e w'=>e = .returned (.bool (uletter s)) ∧ Below w.heap.size w w':=by
  have hr:=runes_eq s hz (s.size + 11) (by omega)
  have hrg:=urunes_range s
  have hlen : (urunes s).length = ucount s:=by simp [ucount,urunes]
  obtain ⟨l,hl⟩ : ∃ l,urunes s = l:=⟨_,rfl⟩
  have hv : uletter s = (l.all ugood && decide (1 ≤ l.length ∧ l.length ≤ 3)):=by unfold uletter;rw [hl,← hlen,hl]
  rw [hl] at hr hrg
  rw [hv]
  clear hv hlen hl
  replace hr:=Lib.hid hr
  by_cases h1 : 1 ≤ l.length ∧ l.length ≤ 3
  · rw [decide_eq_true h1,Bool.and_true]
    obtain ⟨h1a,h1b⟩:=h1
    have t1 : decide ((l.length : Int) < 1) = false:=decide_eq_false (by omega)
    have t2 : decide (3 < (l.length : Int)) = false:=decide_eq_false (by omega)
    go_enter Tryz.func52,Tryz.ntmps52
    go_wp2_with (first
      | (go_at_call 83;go_must (refine (rebusref01_Runes.calls _ _ _ _ hr.out).mono ?_;rintro e w3 ⟨v,rfl,rv,hb3⟩;obtain ⟨A,c,rfl⟩:=Kd.R_slice rv;have hR:=Lib.hid rv;have hB3:=Lib.hid hb3;clear rv hb3)))
    go_loopw [4] (fun v4 wr=>∃ (i : Nat) (q : Int),v4 = .int .i64 q ∧ Hid (q = i ∧ i ≤ l.length) ∧ Hid (l.all ugood = (l.drop i).all ugood) ∧ Hid (Below w3.heap.size w3 wr)) (fun v4 _=>l.length - (intOf v4).toNat)
    case atStart=>exact ⟨0,0,rfl,Lib.hid ⟨rfl,Nat.zero_le _⟩,Lib.hid (by rw [List.drop_zero]),Lib.hid (Below.refl _ _)⟩
    case round =>
      obtain ⟨i,q,rfl,hq,hg,hB⟩:=hrel
      by_cases hlt : i < l.length
      · have hq0 : 0 ≤ q:=by have:=hq.out;omega
        have hq1 : q < (l.length : Int):=by have:=hq.out;omega
        obtain ⟨ad,eA,zr⟩:=Kd.at_int (Kd.R_reads' (Kd.R_below hR.out hB.out)).2.2 q hq0 hq1
        cases eA
        obtain ⟨r,hrr⟩ : ∃ x,rd l q = x:=⟨_,rfl⟩
        rw [hrr] at zr
        have er : l[i] = r:=by
          rw [← hrr]
          unfold rd
          rw [List.getD_eq_getElem?_getD,show q.toNat = i by have:=hq.out;omega,List.getElem?_eq_getElem hlt]
          rfl
        obtain ⟨b0,b1⟩:=hrg r (by rw [← er];exact List.getElem_mem hlt)
        have hg2 : l.all ugood = (ugood r && (l.drop (i + 1)).all ugood):=by rw [hg.out,List.drop_eq_getElem_cons hlt,List.all_cons,er]
        replace hg2:=Lib.hid hg2
        replace hlt:=Lib.hid hlt
        clear er hrr hg
        by_cases c1 : uclass r = 1
        · have t3 : (uclass r != 1) = false:=by rw [c1];rfl
          by_cases c2 : uupper r = r
          · have t4 : (uupper r != r) = false:=by rw [c2];simp
            have hg3 : l.all ugood = (l.drop (i + 1)).all ugood:=by rw [hg2.out];unfold ugood;rw [c1,c2];simp
            replace hg3:=Lib.hid hg3
            clear c1 c2 hg2
            go_wp2
            go_quiet ((first | (go_at_call 84;exact quiet_left (rebusref02_Class.calls _ b0 b1 _)) | (go_at_call 85;exact quiet_left (rebusref02_Upper.calls _ b0 b1 _))))
            go_wp2
            refine ⟨⟨i + 1,q + 1,rfl,Lib.hid ⟨by have:=hq.out;omega,hlt.out⟩,hg3,Lib.hid (pw_below_drewN hB.out _)⟩,?_⟩
            simp only [intOf];have:=hq.out;have:=hlt.out;omega
          · have t4 : (uupper r != r) = true:=bne_iff_ne.2 c2
            have hg3 : l.all ugood = false:=by
              rw [hg2.out];unfold ugood
              have : (uupper r == r) = false:=by simpa using c2
              rw [this];simp
            replace hg3:=Lib.hid hg3
            clear c1 c2 hg2
            go_wp2
            go_quiet ((first | (go_at_call 84;exact quiet_left (rebusref02_Class.calls _ b0 b1 _)) | (go_at_call 85;exact quiet_left (rebusref02_Upper.calls _ b0 b1 _))))
            go_wp2
            go_ret
            exact ⟨by rw [hg3.out];rfl,pw_below_drewN (below_step hB3.out hB.out) _⟩
        · have t3 : (uclass r != 1) = true:=bne_iff_ne.2 c1
          have hg3 : l.all ugood = false:=by
            rw [hg2.out];unfold ugood
            have : (uclass r == 1) = false:=by simpa using c1
            rw [this];simp
          replace hg3:=Lib.hid hg3
          clear c1 hg2
          go_wp2
          go_quiet ((first | (go_at_call 84;exact quiet_left (rebusref02_Class.calls _ b0 b1 _)) | (go_at_call 85;exact quiet_left (rebusref02_Upper.calls _ b0 b1 _))))
          go_wp2
          go_ret
          exact ⟨by rw [hg3.out];rfl,pw_below_drewN (below_step hB3.out hB.out) _⟩
      · have hge : ¬ q < (l.length : Int):=by have:=hq.out;omega
        have hg3 : l.all ugood = true:=by rw [hg.out,List.drop_of_length_le (by omega)];rfl
        replace hg3:=Lib.hid hg3
        go_wp2
        go_ret
        exact ⟨by rw [hg3.out];rfl,below_step hB3.out hB.out⟩
  · rw [decide_eq_false h1,Bool.and_false]
    by_cases h2 : l.length < 1
    · have t1 : decide ((l.length : Int) < 1) = true:=decide_eq_true (by omega)
      clear h1 h2
      go_enter Tryz.func52,Tryz.ntmps52
      go_wp2_with (first
        | (go_at_call 83;go_must (refine (rebusref01_Runes.calls _ _ _ _ hr.out).mono ?_;rintro e w3 ⟨v,rfl,rv,hb3⟩;obtain ⟨A,c,rfl⟩:=Kd.R_slice rv)))
      go_ret
      exact ⟨rfl,hb3⟩
    · have t1 : decide ((l.length : Int) < 1) = false:=decide_eq_false (by omega)
      have t2 : decide (3 < (l.length : Int)) = true:=decide_eq_true (by omega)
      clear h1 h2
      go_enter Tryz.func52,Tryz.ntmps52
      go_wp2_with (first
        | (go_at_call 83;go_must (refine (rebusref01_Runes.calls _ _ _ _ hr.out).mono ?_;rintro e w3 ⟨v,rfl,rv,hb3⟩;obtain ⟨A,c,rfl⟩:=Kd.R_slice rv)))
      go_ret
      exact ⟨rfl,hb3⟩
end Go.Proofs.YtpfbcepgmigeiaaGreatDoor.Q
end
