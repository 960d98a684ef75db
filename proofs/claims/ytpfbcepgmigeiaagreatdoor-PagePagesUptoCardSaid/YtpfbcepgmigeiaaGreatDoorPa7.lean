/- PART 7 OF A PROOF: Lean functions, and that the program computes them; written by hand and by a program. Not trusted: Lean checks it. -/
import Derived.Test.YtpfbcepgmigeiaaGreatDoorPa3
set_option linter.unusedVariables false
set_option linter.unusedSimpArgs false
section
namespace Go.Proofs.YtpfbcepgmigeiaaGreatDoor.Q
open Go.RowKit Go.Proofs.YtpfbcepgmigeiaaGreatDoorW.PrintWords Go.Proofs.YtpfbcepgmigeiaaGreatDoorW.PrintLast Go.Proofs.YtpfbcepgmigeiaaGreatDoorW.PrintMore
attribute [local go_sem] max2_int min2_int max_two min_two max_three min_three max_four min_four
set_option linter.unusedVariables false
set_option linter.unusedSimpArgs false
def fold_in.f (a0 : Int) (a1 : Int) (a2 : Int) : Option (Bool):=if a1 ≤ a0 then (some (decide (a0 ≤ a2))) else (some false)
set_option maxHeartbeats 8000000 in
set_option maxRecDepth 100000 in
theorem fold_in.calls (a0 : Int) (a1 : Int) (a2 : Int) (r : Bool) (w : World) (h : fold_in.f a0 a1 a2 = some r) :
  Calls Tryz.prog 94 #[.int .i32 a0,.int .i32 a1,.int .i32 a2] w fun e w'=>e = .returned (.bool r) ∧ Drawn0 w w':=by
 have H : (if a1 ≤ a0 then (some (decide (a0 ≤ a2))) else (some false)) = some r:=h
 clear h
 by_cases c4 : a1 ≤ a0
 ·rw [if_pos c4] at H
  have c4b0 : decide (a1 ≤ a0) = true:=decide_eq_true c4
  clear c4
  obtain rfl:=Option.some.inj H
  go_enter Tryz.func94,Tryz.ntmps94
  go_wp2
  go_ret
  exact ⟨by first | rfl | (simp;done) | (simp [*];done),by repeat (first | exact Drawn0.refl _ | apply Drawn0.step)⟩
 ·rw [if_neg c4] at H
  have c4b0 : decide (a1 ≤ a0) = false:=decide_eq_false c4
  clear c4
  obtain rfl:=Option.some.inj H
  go_enter Tryz.func94,Tryz.ntmps94
  go_wp2
  go_ret
  exact ⟨by first | rfl | (simp;done) | (simp [*];done),by repeat (first | exact Drawn0.refl _ | apply Drawn0.step)⟩
mutual
def fold_Class.j0 : Nat → Int → Bool → Option (Int)
 | 0,_,_=>none
 | k + 1,x0,x6=>if x6 = true then (some 3) else ((fold_in.f x0 768 879).bind fun t122=>(if t122 = true then (some 4) else (if x0 = 215 then (fold_Class.j1 k x0 (x0 == 215)) else (if x0 = 247 then (fold_Class.j1 k x0 (x0 == 247)) else (fold_Class.j1 k x0 (x0 == 930))))))
def fold_Class.j1 : Nat → Int → Bool → Option (Int)
 | 0,_,_=>none
 | k + 1,x0,x16=>if x16 = true then (some 0) else ((fold_in.f x0 65 90).bind fun t123=>(if t123 = true then (some 1) else ((fold_in.f x0 97 122).bind fun t124=>(if t124 = true then (some 1) else ((fold_in.f x0 192 383).bind fun t125=>(if t125 = true then (some 1) else ((fold_in.f x0 913 937).bind fun t126=>(if t126 = true then (some 1) else ((fold_in.f x0 945 969).bind fun t127=>(if t127 = true then (some 1) else ((fold_in.f x0 1024 1119).bind fun t128=>(if t128 = true then (some 1) else (some 0)))))))))))))
end
def fold_Class.f (k : Nat) (a0 : Int) : Option (Int):=(fold_in.f a0 48 57).bind fun t120=>(if t120 = true then (some 2) else ((fold_in.f a0 9 13).bind fun t121=>(if t121 = true then (fold_Class.j0 k a0 t121) else (if a0 = 32 then (fold_Class.j0 k a0 (a0 == 32)) else (fold_Class.j0 k a0 (a0 == 160))))))
set_option maxHeartbeats 8000000 in
set_option maxRecDepth 100000 in
theorem fold_Class.calls (k : Nat) (a0 : Int) (r : Int) (w : World) (h : fold_Class.f k a0 = some r) :
  Calls Tryz.prog 65 #[.int .i32 a0] w fun e w'=>e = .returned (.int .i64 r) ∧ Drawn0 w w':=by
 have H : ((fold_in.f a0 48 57).bind fun t120=>(if t120 = true then (some 2) else ((fold_in.f a0 9 13).bind fun t121=>(if t121 = true then (fold_Class.j0 k a0 t121) else (if a0 = 32 then (fold_Class.j0 k a0 (a0 == 32)) else (fold_Class.j0 k a0 (a0 == 160))))))) = some r:=h
 clear h
 replace H:=Option.bind_eq_some_iff.mp H
 obtain ⟨t120,A20,H⟩:=H
 replace H : (if t120 = true then (some 2) else ((fold_in.f a0 9 13).bind fun t121=>(if t121 = true then (fold_Class.j0 k a0 t121) else (if a0 = 32 then (fold_Class.j0 k a0 (a0 == 32)) else (fold_Class.j0 k a0 (a0 == 160)))))) = some r:=H
 have A2:=Aside0.mk A20
 clear A20
 by_cases c3 : t120 = true
 ·subst c3
  have H1 : (some 2) = some r:=by rw [if_pos rfl] at H;exact H
  clear H
  have H:=H1
  clear H1
  obtain rfl:=Option.some.inj H
  go_enter Tryz.func65,Tryz.ntmps65
  go_wp2_with (first | ((with_reducible refine gate_callee (f:=94) rfl ?_);refine goesL_ (some 5) rfl rfl Tryz.func94 (by kernel_rfl) rfl #[.int .i32 a0,.int .i32 48,.int .i32 57] rfl (by (try simp only [List.map_toArray,List.map_cons,List.map_nil]);first | done | rfl | (simp only [List.length_drop,List.length_take];rfl)) ?_;(with_reducible refine (fold_in.calls a0 48 57 true _ A2.out).mono ?_);rintro e w' ⟨rfl,⟨nd,rfl⟩⟩;refine ⟨_,rfl,?_⟩))
  go_ret
  exact ⟨by first | rfl | (simp;done) | (simp [*];done),by repeat (first | exact Drawn0.refl _ | apply Drawn0.step)⟩
 ·replace c3:=Bool.eq_false_iff.mpr c3
  subst c3
  have H1 : ((fold_in.f a0 9 13).bind fun t121=>(if t121 = true then (fold_Class.j0 k a0 t121) else (if a0 = 32 then (fold_Class.j0 k a0 (a0 == 32)) else (fold_Class.j0 k a0 (a0 == 160))))) = some r:=by rw [if_neg (show ¬ (false = true) by decide)] at H;exact H
  clear H
  have H:=H1
  clear H1
  replace H:=Option.bind_eq_some_iff.mp H
  obtain ⟨t121,A40,H⟩:=H
  replace H : (if t121 = true then (fold_Class.j0 k a0 t121) else (if a0 = 32 then (fold_Class.j0 k a0 (a0 == 32)) else (fold_Class.j0 k a0 (a0 == 160)))) = some r:=H
  have A4:=Aside0.mk A40
  clear A40
  have HC5:=Aside0.mk H
  clear H
  go_enter Tryz.func65,Tryz.ntmps65
  go_upto_if 6 with (first | ((with_reducible refine gate_callee (f:=94) rfl ?_);refine goesL_ (some 5) rfl rfl Tryz.func94 (by kernel_rfl) rfl #[.int .i32 a0,.int .i32 48,.int .i32 57] rfl (by (try simp only [List.map_toArray,List.map_cons,List.map_nil]);first | done | rfl | (simp only [List.length_drop,List.length_take];rfl)) ?_;(with_reducible refine (fold_in.calls a0 48 57 false _ A2.out).mono ?_);rintro e w' ⟨rfl,⟨nd,rfl⟩⟩;refine ⟨_,rfl,?_⟩) | ((with_reducible refine gate_callee (f:=94) rfl ?_);refine goesL_ (some 8) rfl rfl Tryz.func94 (by kernel_rfl) rfl #[.int .i32 a0,.int .i32 9,.int .i32 13] rfl (by (try simp only [List.map_toArray,List.map_cons,List.map_nil]);first | done | rfl | (simp only [List.length_drop,List.length_take];rfl)) ?_;(with_reducible refine (fold_in.calls a0 9 13 t121 _ A4.out).mono ?_);rintro e w' ⟨rfl,⟨nd,rfl⟩⟩;refine ⟨_,rfl,?_⟩))
  (try simp only [Act.put,List.setIfInBounds_toArray,List.set_cons_zero,List.set_cons_succ])
  go_cut [6] (fun v6 wc=>∃ (kq : Nat) (x6_4 : Bool),v6 = .bool x6_4 ∧ Aside0 (fold_Class.j0 kq a0 x6_4 = some r) ∧ Aside0 (kq ≤ k) ∧ Drawn0 w wc)
  case first =>
   have H:=HC5.out
   clear HC5
   by_cases c6 : t121 = true
   ·subst c6
    have H1 : (fold_Class.j0 k a0 true) = some r:=by rw [if_pos rfl] at H;exact H
    clear H
    have H:=H1
    clear H1
    have H':=Aside0.mk H
    clear H
    go_wp2
    go_meet
    case rel=>exact ⟨_,(true),(by first | rfl | (simp;done) | (simp [*];done)),H',⟨by first | omega | exact Nat.le_refl _⟩,by repeat (first | exact Drawn0.refl _ | apply Drawn0.step)⟩
   ·replace c6:=Bool.eq_false_iff.mpr c6
    subst c6
    have H1 : (if a0 = 32 then (fold_Class.j0 k a0 (a0 == 32)) else (fold_Class.j0 k a0 (a0 == 160))) = some r:=by rw [if_neg (show ¬ (false = true) by decide)] at H;exact H
    clear H
    have H:=H1
    clear H1
    by_cases c7 : a0 = 32
    ·rw [if_pos c7] at H
     have c7b0 : (a0 == 32) = true:=beq_iff_eq.mpr c7
     have c7b1 : (a0 != 32) = false:=bne_eq_false_iff_eq.mpr c7
     clear c7
     (first | rw [c7b0] | (simp only [i64_w,i32_w];rw [c7b0]) | skip)
     have H':=Aside0.mk H
     clear H
     go_wp2
     go_meet
     case rel=>exact ⟨_,((a0 == 32)),(by first | rfl | (simp;done) | (simp [*];done)),H',⟨by first | omega | exact Nat.le_refl _⟩,by repeat (first | exact Drawn0.refl _ | apply Drawn0.step)⟩
    ·rw [if_neg c7] at H
     have c7b0 : (a0 == 32) = false:=beq_eq_false_iff_ne.mpr c7
     have c7b1 : (a0 != 32) = true:=bne_iff_ne.mpr c7
     (first | rw [c7b0] | (simp only [i64_w,i32_w];rw [c7b0]) | skip)
     have H':=Aside0.mk H
     clear H
     go_wp2
     go_meet
     case rel=>exact ⟨_,((a0 == 160)),(by first | rfl | (simp;done) | (simp [*];done)),H',⟨by first | omega | exact Nat.le_refl _⟩,by repeat (first | exact Drawn0.refl _ | apply Drawn0.step)⟩
  case rest =>
   clear HC5
   try clear p2
   try clear c3
   try clear c6
   try clear c7
   try clear c7b0
   try clear c7b1
   obtain ⟨kq,x6_4,rfl,HA,HJ4,⟨mc4,rfl⟩⟩:=hcut
   cases kq with
   | zero=>exact absurd HA.out (by simp [fold_Class.j0])
   | succ kj4 =>
    have H:=HA.out
    clear HA
    simp only [fold_Class.j0] at H
    by_cases c8 : x6_4 = true
    ·subst c8
     have H1 : (some 3) = some r:=by rw [if_pos rfl] at H;exact H
     clear H
     have H:=H1
     clear H1
     obtain rfl:=Option.some.inj H
     go_wp2
     go_ret
     exact ⟨by first | rfl | (simp;done) | (simp [*];done),by repeat (first | exact Drawn0.refl _ | apply Drawn0.step)⟩
    ·replace c8:=Bool.eq_false_iff.mpr c8
     subst c8
     have H1 : ((fold_in.f a0 768 879).bind fun t122=>(if t122 = true then (some 4) else (if a0 = 215 then (fold_Class.j1 kj4 a0 (a0 == 215)) else (if a0 = 247 then (fold_Class.j1 kj4 a0 (a0 == 247)) else (fold_Class.j1 kj4 a0 (a0 == 930)))))) = some r:=by rw [if_neg (show ¬ (false = true) by decide)] at H;exact H
     clear H
     have H:=H1
     clear H1
     replace H:=Option.bind_eq_some_iff.mp H
     obtain ⟨t122,A90,H⟩:=H
     replace H : (if t122 = true then (some 4) else (if a0 = 215 then (fold_Class.j1 kj4 a0 (a0 == 215)) else (if a0 = 247 then (fold_Class.j1 kj4 a0 (a0 == 247)) else (fold_Class.j1 kj4 a0 (a0 == 930))))) = some r:=H
     have A9:=Aside0.mk A90
     clear A90
     by_cases c10 : t122 = true
     ·subst c10
      have H1 : (some 4) = some r:=by rw [if_pos rfl] at H;exact H
      clear H
      have H:=H1
      clear H1
      obtain rfl:=Option.some.inj H
      go_wp2_with (first | ((with_reducible refine gate_callee (f:=94) rfl ?_);refine goesL_ (some 15) rfl rfl Tryz.func94 (by kernel_rfl) rfl #[.int .i32 a0,.int .i32 768,.int .i32 879] rfl (by (try simp only [List.map_toArray,List.map_cons,List.map_nil]);first | done | rfl | (simp only [List.length_drop,List.length_take];rfl)) ?_;(with_reducible refine (fold_in.calls a0 768 879 true _ A9.out).mono ?_);rintro e w' ⟨rfl,⟨nd,rfl⟩⟩;refine ⟨_,rfl,?_⟩))
      go_ret
      exact ⟨by first | rfl | (simp;done) | (simp [*];done),by repeat (first | exact Drawn0.refl _ | apply Drawn0.step)⟩
     ·replace c10:=Bool.eq_false_iff.mpr c10
      subst c10
      have H1 : (if a0 = 215 then (fold_Class.j1 kj4 a0 (a0 == 215)) else (if a0 = 247 then (fold_Class.j1 kj4 a0 (a0 == 247)) else (fold_Class.j1 kj4 a0 (a0 == 930)))) = some r:=by rw [if_neg (show ¬ (false = true) by decide)] at H;exact H
      clear H
      have H:=H1
      clear H1
      have HC11:=Aside0.mk H
      clear H
      go_upto_if 16 with (first | ((with_reducible refine gate_callee (f:=94) rfl ?_);refine goesL_ (some 15) rfl rfl Tryz.func94 (by kernel_rfl) rfl #[.int .i32 a0,.int .i32 768,.int .i32 879] rfl (by (try simp only [List.map_toArray,List.map_cons,List.map_nil]);first | done | rfl | (simp only [List.length_drop,List.length_take];rfl)) ?_;(with_reducible refine (fold_in.calls a0 768 879 false _ A9.out).mono ?_);rintro e w' ⟨rfl,⟨nd,rfl⟩⟩;refine ⟨_,rfl,?_⟩))
      (try simp only [Act.put,List.setIfInBounds_toArray,List.set_cons_zero,List.set_cons_succ])
      go_cut [16] (fun v16 wc=>∃ (kq : Nat) (x16_10 : Bool),v16 = .bool x16_10 ∧ Aside0 (fold_Class.j1 kq a0 x16_10 = some r) ∧ Aside0 (kq ≤ kj4) ∧ Drawn0 w wc)
      case first =>
       have H:=HC11.out
       clear HC11
       by_cases c12 : a0 = 215
       ·rw [if_pos c12] at H
        have c12b0 : (a0 == 215) = true:=beq_iff_eq.mpr c12
        have c12b1 : (a0 != 215) = false:=bne_eq_false_iff_eq.mpr c12
        clear c12
        (first | rw [c12b0] | (simp only [i64_w,i32_w];rw [c12b0]) | skip)
        have H':=Aside0.mk H
        clear H
        go_wp2
        go_meet
        case rel=>exact ⟨_,((a0 == 215)),(by first | rfl | (simp;done) | (simp [*];done)),H',⟨by have:=HJ4.out;first | omega | exact Nat.le_refl _⟩,by repeat (first | exact Drawn0.refl _ | apply Drawn0.step)⟩
       ·rw [if_neg c12] at H
        have c12b0 : (a0 == 215) = false:=beq_eq_false_iff_ne.mpr c12
        have c12b1 : (a0 != 215) = true:=bne_iff_ne.mpr c12
        (first | rw [c12b0] | (simp only [i64_w,i32_w];rw [c12b0]) | skip)
        by_cases c13 : a0 = 247
        ·rw [if_pos c13] at H
         have c13b0 : (a0 == 247) = true:=beq_iff_eq.mpr c13
         have c13b1 : (a0 != 247) = false:=bne_eq_false_iff_eq.mpr c13
         clear c13
         have H':=Aside0.mk H
         clear H
         go_wp2
         go_meet
         case rel=>exact ⟨_,((a0 == 247)),(by first | rfl | (simp;done) | (simp [*];done)),H',⟨by have:=HJ4.out;first | omega | exact Nat.le_refl _⟩,by repeat (first | exact Drawn0.refl _ | apply Drawn0.step)⟩
        ·rw [if_neg c13] at H
         have c13b0 : (a0 == 247) = false:=beq_eq_false_iff_ne.mpr c13
         have c13b1 : (a0 != 247) = true:=bne_iff_ne.mpr c13
         have H':=Aside0.mk H
         clear H
         go_wp2
         go_meet
         case rel=>exact ⟨_,((a0 == 930)),(by first | rfl | (simp;done) | (simp [*];done)),H',⟨by have:=HJ4.out;first | omega | exact Nat.le_refl _⟩,by repeat (first | exact Drawn0.refl _ | apply Drawn0.step)⟩
      case rest =>
       clear HC11
       try clear c1
       try clear p2
       try clear c3
       try clear c4
       try clear c6
       try clear c7
       try clear c7b0
       try clear c7b1
       try clear c8
       try clear c9
       try clear c10
       try clear c12
       try clear c12b0
       try clear c12b1
       try clear c13
       try clear c13b0
       try clear c13b1
       try clear p2
       obtain ⟨kq,x16_10,rfl,HA,HJ10,⟨mc10,rfl⟩⟩:=hcut
       cases kq with
       | zero=>exact absurd HA.out (by simp [fold_Class.j1])
       | succ kj10 =>
        have H:=HA.out
        clear HA
        simp only [fold_Class.j1] at H
        by_cases c14 : x16_10 = true
        ·subst c14
         have H1 : (some 0) = some r:=by rw [if_pos rfl] at H;exact H
         clear H
         have H:=H1
         clear H1
         obtain rfl:=Option.some.inj H
         go_wp2
         go_ret
         exact ⟨by first | rfl | (simp;done) | (simp [*];done),by repeat (first | exact Drawn0.refl _ | apply Drawn0.step)⟩
        ·replace c14:=Bool.eq_false_iff.mpr c14
         subst c14
         have H1 : ((fold_in.f a0 65 90).bind fun t123=>(if t123 = true then (some 1) else ((fold_in.f a0 97 122).bind fun t124=>(if t124 = true then (some 1) else ((fold_in.f a0 192 383).bind fun t125=>(if t125 = true then (some 1) else ((fold_in.f a0 913 937).bind fun t126=>(if t126 = true then (some 1) else ((fold_in.f a0 945 969).bind fun t127=>(if t127 = true then (some 1) else ((fold_in.f a0 1024 1119).bind fun t128=>(if t128 = true then (some 1) else (some 0))))))))))))) = some r:=by rw [if_neg (show ¬ (false = true) by decide)] at H;exact H
         clear H
         have H:=H1
         clear H1
         replace H:=Option.bind_eq_some_iff.mp H
         obtain ⟨t123,A150,H⟩:=H
         replace H : (if t123 = true then (some 1) else ((fold_in.f a0 97 122).bind fun t124=>(if t124 = true then (some 1) else ((fold_in.f a0 192 383).bind fun t125=>(if t125 = true then (some 1) else ((fold_in.f a0 913 937).bind fun t126=>(if t126 = true then (some 1) else ((fold_in.f a0 945 969).bind fun t127=>(if t127 = true then (some 1) else ((fold_in.f a0 1024 1119).bind fun t128=>(if t128 = true then (some 1) else (some 0)))))))))))) = some r:=H
         have A15:=Aside0.mk A150
         clear A150
         by_cases c16 : t123 = true
         ·subst c16
          have H1 : (some 1) = some r:=by rw [if_pos rfl] at H;exact H
          clear H
          have H:=H1
          clear H1
          obtain rfl:=Option.some.inj H
          go_wp2_with (first | ((with_reducible refine gate_callee (f:=94) rfl ?_);refine goesL_ (some 25) rfl rfl Tryz.func94 (by kernel_rfl) rfl #[.int .i32 a0,.int .i32 65,.int .i32 90] rfl (by (try simp only [List.map_toArray,List.map_cons,List.map_nil]);first | done | rfl | (simp only [List.length_drop,List.length_take];rfl)) ?_;(with_reducible refine (fold_in.calls a0 65 90 true _ A15.out).mono ?_);rintro e w' ⟨rfl,⟨nd,rfl⟩⟩;refine ⟨_,rfl,?_⟩))
          go_ret
          exact ⟨by first | rfl | (simp;done) | (simp [*];done),by repeat (first | exact Drawn0.refl _ | apply Drawn0.step)⟩
         ·replace c16:=Bool.eq_false_iff.mpr c16
          subst c16
          have H1 : ((fold_in.f a0 97 122).bind fun t124=>(if t124 = true then (some 1) else ((fold_in.f a0 192 383).bind fun t125=>(if t125 = true then (some 1) else ((fold_in.f a0 913 937).bind fun t126=>(if t126 = true then (some 1) else ((fold_in.f a0 945 969).bind fun t127=>(if t127 = true then (some 1) else ((fold_in.f a0 1024 1119).bind fun t128=>(if t128 = true then (some 1) else (some 0))))))))))) = some r:=by rw [if_neg (show ¬ (false = true) by decide)] at H;exact H
          clear H
          have H:=H1
          clear H1
          replace H:=Option.bind_eq_some_iff.mp H
          obtain ⟨t124,A170,H⟩:=H
          replace H : (if t124 = true then (some 1) else ((fold_in.f a0 192 383).bind fun t125=>(if t125 = true then (some 1) else ((fold_in.f a0 913 937).bind fun t126=>(if t126 = true then (some 1) else ((fold_in.f a0 945 969).bind fun t127=>(if t127 = true then (some 1) else ((fold_in.f a0 1024 1119).bind fun t128=>(if t128 = true then (some 1) else (some 0)))))))))) = some r:=H
          have A17:=Aside0.mk A170
          clear A170
          by_cases c18 : t124 = true
          ·subst c18
           have H1 : (some 1) = some r:=by rw [if_pos rfl] at H;exact H
           clear H
           have H:=H1
           clear H1
           obtain rfl:=Option.some.inj H
           go_wp2_with (first | ((with_reducible refine gate_callee (f:=94) rfl ?_);refine goesL_ (some 25) rfl rfl Tryz.func94 (by kernel_rfl) rfl #[.int .i32 a0,.int .i32 65,.int .i32 90] rfl (by (try simp only [List.map_toArray,List.map_cons,List.map_nil]);first | done | rfl | (simp only [List.length_drop,List.length_take];rfl)) ?_;(with_reducible refine (fold_in.calls a0 65 90 false _ A15.out).mono ?_);rintro e w' ⟨rfl,⟨nd,rfl⟩⟩;refine ⟨_,rfl,?_⟩) | ((with_reducible refine gate_callee (f:=94) rfl ?_);refine goesL_ (some 27) rfl rfl Tryz.func94 (by kernel_rfl) rfl #[.int .i32 a0,.int .i32 97,.int .i32 122] rfl (by (try simp only [List.map_toArray,List.map_cons,List.map_nil]);first | done | rfl | (simp only [List.length_drop,List.length_take];rfl)) ?_;(with_reducible refine (fold_in.calls a0 97 122 true _ A17.out).mono ?_);rintro e w' ⟨rfl,⟨nd,rfl⟩⟩;refine ⟨_,rfl,?_⟩))
           go_ret
           exact ⟨by first | rfl | (simp;done) | (simp [*];done),by repeat (first | exact Drawn0.refl _ | apply Drawn0.step)⟩
          ·replace c18:=Bool.eq_false_iff.mpr c18
           subst c18
           have H1 : ((fold_in.f a0 192 383).bind fun t125=>(if t125 = true then (some 1) else ((fold_in.f a0 913 937).bind fun t126=>(if t126 = true then (some 1) else ((fold_in.f a0 945 969).bind fun t127=>(if t127 = true then (some 1) else ((fold_in.f a0 1024 1119).bind fun t128=>(if t128 = true then (some 1) else (some 0))))))))) = some r:=by rw [if_neg (show ¬ (false = true) by decide)] at H;exact H
           clear H
           have H:=H1
           clear H1
           replace H:=Option.bind_eq_some_iff.mp H
           obtain ⟨t125,A190,H⟩:=H
           replace H : (if t125 = true then (some 1) else ((fold_in.f a0 913 937).bind fun t126=>(if t126 = true then (some 1) else ((fold_in.f a0 945 969).bind fun t127=>(if t127 = true then (some 1) else ((fold_in.f a0 1024 1119).bind fun t128=>(if t128 = true then (some 1) else (some 0)))))))) = some r:=H
           have A19:=Aside0.mk A190
           clear A190
           by_cases c20 : t125 = true
           ·subst c20
            have H1 : (some 1) = some r:=by rw [if_pos rfl] at H;exact H
            clear H
            have H:=H1
            clear H1
            obtain rfl:=Option.some.inj H
            go_wp2_with (first | ((with_reducible refine gate_callee (f:=94) rfl ?_);refine goesL_ (some 25) rfl rfl Tryz.func94 (by kernel_rfl) rfl #[.int .i32 a0,.int .i32 65,.int .i32 90] rfl (by (try simp only [List.map_toArray,List.map_cons,List.map_nil]);first | done | rfl | (simp only [List.length_drop,List.length_take];rfl)) ?_;(with_reducible refine (fold_in.calls a0 65 90 false _ A15.out).mono ?_);rintro e w' ⟨rfl,⟨nd,rfl⟩⟩;refine ⟨_,rfl,?_⟩) | ((with_reducible refine gate_callee (f:=94) rfl ?_);refine goesL_ (some 27) rfl rfl Tryz.func94 (by kernel_rfl) rfl #[.int .i32 a0,.int .i32 97,.int .i32 122] rfl (by (try simp only [List.map_toArray,List.map_cons,List.map_nil]);first | done | rfl | (simp only [List.length_drop,List.length_take];rfl)) ?_;(with_reducible refine (fold_in.calls a0 97 122 false _ A17.out).mono ?_);rintro e w' ⟨rfl,⟨nd,rfl⟩⟩;refine ⟨_,rfl,?_⟩) | ((with_reducible refine gate_callee (f:=94) rfl ?_);refine goesL_ (some 29) rfl rfl Tryz.func94 (by kernel_rfl) rfl #[.int .i32 a0,.int .i32 192,.int .i32 383] rfl (by (try simp only [List.map_toArray,List.map_cons,List.map_nil]);first | done | rfl | (simp only [List.length_drop,List.length_take];rfl)) ?_;(with_reducible refine (fold_in.calls a0 192 383 true _ A19.out).mono ?_);rintro e w' ⟨rfl,⟨nd,rfl⟩⟩;refine ⟨_,rfl,?_⟩))
            go_ret
            exact ⟨by first | rfl | (simp;done) | (simp [*];done),by repeat (first | exact Drawn0.refl _ | apply Drawn0.step)⟩
           ·replace c20:=Bool.eq_false_iff.mpr c20
            subst c20
            have H1 : ((fold_in.f a0 913 937).bind fun t126=>(if t126 = true then (some 1) else ((fold_in.f a0 945 969).bind fun t127=>(if t127 = true then (some 1) else ((fold_in.f a0 1024 1119).bind fun t128=>(if t128 = true then (some 1) else (some 0))))))) = some r:=by rw [if_neg (show ¬ (false = true) by decide)] at H;exact H
            clear H
            have H:=H1
            clear H1
            replace H:=Option.bind_eq_some_iff.mp H
            obtain ⟨t126,A210,H⟩:=H
            replace H : (if t126 = true then (some 1) else ((fold_in.f a0 945 969).bind fun t127=>(if t127 = true then (some 1) else ((fold_in.f a0 1024 1119).bind fun t128=>(if t128 = true then (some 1) else (some 0)))))) = some r:=H
            have A21:=Aside0.mk A210
            clear A210
            by_cases c22 : t126 = true
            ·subst c22
             have H1 : (some 1) = some r:=by rw [if_pos rfl] at H;exact H
             clear H
             have H:=H1
             clear H1
             obtain rfl:=Option.some.inj H
             go_wp2_with (first | ((with_reducible refine gate_callee (f:=94) rfl ?_);refine goesL_ (some 25) rfl rfl Tryz.func94 (by kernel_rfl) rfl #[.int .i32 a0,.int .i32 65,.int .i32 90] rfl (by (try simp only [List.map_toArray,List.map_cons,List.map_nil]);first | done | rfl | (simp only [List.length_drop,List.length_take];rfl)) ?_;(with_reducible refine (fold_in.calls a0 65 90 false _ A15.out).mono ?_);rintro e w' ⟨rfl,⟨nd,rfl⟩⟩;refine ⟨_,rfl,?_⟩) | ((with_reducible refine gate_callee (f:=94) rfl ?_);refine goesL_ (some 27) rfl rfl Tryz.func94 (by kernel_rfl) rfl #[.int .i32 a0,.int .i32 97,.int .i32 122] rfl (by (try simp only [List.map_toArray,List.map_cons,List.map_nil]);first | done | rfl | (simp only [List.length_drop,List.length_take];rfl)) ?_;(with_reducible refine (fold_in.calls a0 97 122 false _ A17.out).mono ?_);rintro e w' ⟨rfl,⟨nd,rfl⟩⟩;refine ⟨_,rfl,?_⟩) | ((with_reducible refine gate_callee (f:=94) rfl ?_);refine goesL_ (some 29) rfl rfl Tryz.func94 (by kernel_rfl) rfl #[.int .i32 a0,.int .i32 192,.int .i32 383] rfl (by (try simp only [List.map_toArray,List.map_cons,List.map_nil]);first | done | rfl | (simp only [List.length_drop,List.length_take];rfl)) ?_;(with_reducible refine (fold_in.calls a0 192 383 false _ A19.out).mono ?_);rintro e w' ⟨rfl,⟨nd,rfl⟩⟩;refine ⟨_,rfl,?_⟩) | ((with_reducible refine gate_callee (f:=94) rfl ?_);refine goesL_ (some 31) rfl rfl Tryz.func94 (by kernel_rfl) rfl #[.int .i32 a0,.int .i32 913,.int .i32 937] rfl (by (try simp only [List.map_toArray,List.map_cons,List.map_nil]);first | done | rfl | (simp only [List.length_drop,List.length_take];rfl)) ?_;(with_reducible refine (fold_in.calls a0 913 937 true _ A21.out).mono ?_);rintro e w' ⟨rfl,⟨nd,rfl⟩⟩;refine ⟨_,rfl,?_⟩))
             go_ret
             exact ⟨by first | rfl | (simp;done) | (simp [*];done),by repeat (first | exact Drawn0.refl _ | apply Drawn0.step)⟩
            ·replace c22:=Bool.eq_false_iff.mpr c22
             subst c22
             have H1 : ((fold_in.f a0 945 969).bind fun t127=>(if t127 = true then (some 1) else ((fold_in.f a0 1024 1119).bind fun t128=>(if t128 = true then (some 1) else (some 0))))) = some r:=by rw [if_neg (show ¬ (false = true) by decide)] at H;exact H
             clear H
             have H:=H1
             clear H1
             replace H:=Option.bind_eq_some_iff.mp H
             obtain ⟨t127,A230,H⟩:=H
             replace H : (if t127 = true then (some 1) else ((fold_in.f a0 1024 1119).bind fun t128=>(if t128 = true then (some 1) else (some 0)))) = some r:=H
             have A23:=Aside0.mk A230
             clear A230
             by_cases c24 : t127 = true
             ·subst c24
              have H1 : (some 1) = some r:=by rw [if_pos rfl] at H;exact H
              clear H
              have H:=H1
              clear H1
              obtain rfl:=Option.some.inj H
              go_wp2_with (first | ((with_reducible refine gate_callee (f:=94) rfl ?_);refine goesL_ (some 25) rfl rfl Tryz.func94 (by kernel_rfl) rfl #[.int .i32 a0,.int .i32 65,.int .i32 90] rfl (by (try simp only [List.map_toArray,List.map_cons,List.map_nil]);first | done | rfl | (simp only [List.length_drop,List.length_take];rfl)) ?_;(with_reducible refine (fold_in.calls a0 65 90 false _ A15.out).mono ?_);rintro e w' ⟨rfl,⟨nd,rfl⟩⟩;refine ⟨_,rfl,?_⟩) | ((with_reducible refine gate_callee (f:=94) rfl ?_);refine goesL_ (some 27) rfl rfl Tryz.func94 (by kernel_rfl) rfl #[.int .i32 a0,.int .i32 97,.int .i32 122] rfl (by (try simp only [List.map_toArray,List.map_cons,List.map_nil]);first | done | rfl | (simp only [List.length_drop,List.length_take];rfl)) ?_;(with_reducible refine (fold_in.calls a0 97 122 false _ A17.out).mono ?_);rintro e w' ⟨rfl,⟨nd,rfl⟩⟩;refine ⟨_,rfl,?_⟩) | ((with_reducible refine gate_callee (f:=94) rfl ?_);refine goesL_ (some 29) rfl rfl Tryz.func94 (by kernel_rfl) rfl #[.int .i32 a0,.int .i32 192,.int .i32 383] rfl (by (try simp only [List.map_toArray,List.map_cons,List.map_nil]);first | done | rfl | (simp only [List.length_drop,List.length_take];rfl)) ?_;(with_reducible refine (fold_in.calls a0 192 383 false _ A19.out).mono ?_);rintro e w' ⟨rfl,⟨nd,rfl⟩⟩;refine ⟨_,rfl,?_⟩) | ((with_reducible refine gate_callee (f:=94) rfl ?_);refine goesL_ (some 31) rfl rfl Tryz.func94 (by kernel_rfl) rfl #[.int .i32 a0,.int .i32 913,.int .i32 937] rfl (by (try simp only [List.map_toArray,List.map_cons,List.map_nil]);first | done | rfl | (simp only [List.length_drop,List.length_take];rfl)) ?_;(with_reducible refine (fold_in.calls a0 913 937 false _ A21.out).mono ?_);rintro e w' ⟨rfl,⟨nd,rfl⟩⟩;refine ⟨_,rfl,?_⟩) | ((with_reducible refine gate_callee (f:=94) rfl ?_);refine goesL_ (some 33) rfl rfl Tryz.func94 (by kernel_rfl) rfl #[.int .i32 a0,.int .i32 945,.int .i32 969] rfl (by (try simp only [List.map_toArray,List.map_cons,List.map_nil]);first | done | rfl | (simp only [List.length_drop,List.length_take];rfl)) ?_;(with_reducible refine (fold_in.calls a0 945 969 true _ A23.out).mono ?_);rintro e w' ⟨rfl,⟨nd,rfl⟩⟩;refine ⟨_,rfl,?_⟩))
              go_ret
              exact ⟨by first | rfl | (simp;done) | (simp [*];done),by repeat (first | exact Drawn0.refl _ | apply Drawn0.step)⟩
             ·replace c24:=Bool.eq_false_iff.mpr c24
              subst c24
              have H1 : ((fold_in.f a0 1024 1119).bind fun t128=>(if t128 = true then (some 1) else (some 0))) = some r:=by rw [if_neg (show ¬ (false = true) by decide)] at H;exact H
              clear H
              have H:=H1
              clear H1
              replace H:=Option.bind_eq_some_iff.mp H
              obtain ⟨t128,A250,H⟩:=H
              replace H : (if t128 = true then (some 1) else (some 0)) = some r:=H
              have A25:=Aside0.mk A250
              clear A250
              by_cases c26 : t128 = true
              ·subst c26
               have H1 : (some 1) = some r:=by rw [if_pos rfl] at H;exact H
               clear H
               have H:=H1
               clear H1
               obtain rfl:=Option.some.inj H
               go_wp2_with (first | ((with_reducible refine gate_callee (f:=94) rfl ?_);refine goesL_ (some 25) rfl rfl Tryz.func94 (by kernel_rfl) rfl #[.int .i32 a0,.int .i32 65,.int .i32 90] rfl (by (try simp only [List.map_toArray,List.map_cons,List.map_nil]);first | done | rfl | (simp only [List.length_drop,List.length_take];rfl)) ?_;(with_reducible refine (fold_in.calls a0 65 90 false _ A15.out).mono ?_);rintro e w' ⟨rfl,⟨nd,rfl⟩⟩;refine ⟨_,rfl,?_⟩) | ((with_reducible refine gate_callee (f:=94) rfl ?_);refine goesL_ (some 27) rfl rfl Tryz.func94 (by kernel_rfl) rfl #[.int .i32 a0,.int .i32 97,.int .i32 122] rfl (by (try simp only [List.map_toArray,List.map_cons,List.map_nil]);first | done | rfl | (simp only [List.length_drop,List.length_take];rfl)) ?_;(with_reducible refine (fold_in.calls a0 97 122 false _ A17.out).mono ?_);rintro e w' ⟨rfl,⟨nd,rfl⟩⟩;refine ⟨_,rfl,?_⟩) | ((with_reducible refine gate_callee (f:=94) rfl ?_);refine goesL_ (some 29) rfl rfl Tryz.func94 (by kernel_rfl) rfl #[.int .i32 a0,.int .i32 192,.int .i32 383] rfl (by (try simp only [List.map_toArray,List.map_cons,List.map_nil]);first | done | rfl | (simp only [List.length_drop,List.length_take];rfl)) ?_;(with_reducible refine (fold_in.calls a0 192 383 false _ A19.out).mono ?_);rintro e w' ⟨rfl,⟨nd,rfl⟩⟩;refine ⟨_,rfl,?_⟩) | ((with_reducible refine gate_callee (f:=94) rfl ?_);refine goesL_ (some 31) rfl rfl Tryz.func94 (by kernel_rfl) rfl #[.int .i32 a0,.int .i32 913,.int .i32 937] rfl (by (try simp only [List.map_toArray,List.map_cons,List.map_nil]);first | done | rfl | (simp only [List.length_drop,List.length_take];rfl)) ?_;(with_reducible refine (fold_in.calls a0 913 937 false _ A21.out).mono ?_);rintro e w' ⟨rfl,⟨nd,rfl⟩⟩;refine ⟨_,rfl,?_⟩) | ((with_reducible refine gate_callee (f:=94) rfl ?_);refine goesL_ (some 33) rfl rfl Tryz.func94 (by kernel_rfl) rfl #[.int .i32 a0,.int .i32 945,.int .i32 969] rfl (by (try simp only [List.map_toArray,List.map_cons,List.map_nil]);first | done | rfl | (simp only [List.length_drop,List.length_take];rfl)) ?_;(with_reducible refine (fold_in.calls a0 945 969 false _ A23.out).mono ?_);rintro e w' ⟨rfl,⟨nd,rfl⟩⟩;refine ⟨_,rfl,?_⟩) | ((with_reducible refine gate_callee (f:=94) rfl ?_);refine goesL_ (some 35) rfl rfl Tryz.func94 (by kernel_rfl) rfl #[.int .i32 a0,.int .i32 1024,.int .i32 1119] rfl (by (try simp only [List.map_toArray,List.map_cons,List.map_nil]);first | done | rfl | (simp only [List.length_drop,List.length_take];rfl)) ?_;(with_reducible refine (fold_in.calls a0 1024 1119 true _ A25.out).mono ?_);rintro e w' ⟨rfl,⟨nd,rfl⟩⟩;refine ⟨_,rfl,?_⟩))
               go_ret
               exact ⟨by first | rfl | (simp;done) | (simp [*];done),by repeat (first | exact Drawn0.refl _ | apply Drawn0.step)⟩
              ·replace c26:=Bool.eq_false_iff.mpr c26
               subst c26
               have H1 : (some 0) = some r:=by rw [if_neg (show ¬ (false = true) by decide)] at H;exact H
               clear H
               have H:=H1
               clear H1
               obtain rfl:=Option.some.inj H
               go_wp2_with (first | ((with_reducible refine gate_callee (f:=94) rfl ?_);refine goesL_ (some 25) rfl rfl Tryz.func94 (by kernel_rfl) rfl #[.int .i32 a0,.int .i32 65,.int .i32 90] rfl (by (try simp only [List.map_toArray,List.map_cons,List.map_nil]);first | done | rfl | (simp only [List.length_drop,List.length_take];rfl)) ?_;(with_reducible refine (fold_in.calls a0 65 90 false _ A15.out).mono ?_);rintro e w' ⟨rfl,⟨nd,rfl⟩⟩;refine ⟨_,rfl,?_⟩) | ((with_reducible refine gate_callee (f:=94) rfl ?_);refine goesL_ (some 27) rfl rfl Tryz.func94 (by kernel_rfl) rfl #[.int .i32 a0,.int .i32 97,.int .i32 122] rfl (by (try simp only [List.map_toArray,List.map_cons,List.map_nil]);first | done | rfl | (simp only [List.length_drop,List.length_take];rfl)) ?_;(with_reducible refine (fold_in.calls a0 97 122 false _ A17.out).mono ?_);rintro e w' ⟨rfl,⟨nd,rfl⟩⟩;refine ⟨_,rfl,?_⟩) | ((with_reducible refine gate_callee (f:=94) rfl ?_);refine goesL_ (some 29) rfl rfl Tryz.func94 (by kernel_rfl) rfl #[.int .i32 a0,.int .i32 192,.int .i32 383] rfl (by (try simp only [List.map_toArray,List.map_cons,List.map_nil]);first | done | rfl | (simp only [List.length_drop,List.length_take];rfl)) ?_;(with_reducible refine (fold_in.calls a0 192 383 false _ A19.out).mono ?_);rintro e w' ⟨rfl,⟨nd,rfl⟩⟩;refine ⟨_,rfl,?_⟩) | ((with_reducible refine gate_callee (f:=94) rfl ?_);refine goesL_ (some 31) rfl rfl Tryz.func94 (by kernel_rfl) rfl #[.int .i32 a0,.int .i32 913,.int .i32 937] rfl (by (try simp only [List.map_toArray,List.map_cons,List.map_nil]);first | done | rfl | (simp only [List.length_drop,List.length_take];rfl)) ?_;(with_reducible refine (fold_in.calls a0 913 937 false _ A21.out).mono ?_);rintro e w' ⟨rfl,⟨nd,rfl⟩⟩;refine ⟨_,rfl,?_⟩) | ((with_reducible refine gate_callee (f:=94) rfl ?_);refine goesL_ (some 33) rfl rfl Tryz.func94 (by kernel_rfl) rfl #[.int .i32 a0,.int .i32 945,.int .i32 969] rfl (by (try simp only [List.map_toArray,List.map_cons,List.map_nil]);first | done | rfl | (simp only [List.length_drop,List.length_take];rfl)) ?_;(with_reducible refine (fold_in.calls a0 945 969 false _ A23.out).mono ?_);rintro e w' ⟨rfl,⟨nd,rfl⟩⟩;refine ⟨_,rfl,?_⟩) | ((with_reducible refine gate_callee (f:=94) rfl ?_);refine goesL_ (some 35) rfl rfl Tryz.func94 (by kernel_rfl) rfl #[.int .i32 a0,.int .i32 1024,.int .i32 1119] rfl (by (try simp only [List.map_toArray,List.map_cons,List.map_nil]);first | done | rfl | (simp only [List.length_drop,List.length_take];rfl)) ?_;(with_reducible refine (fold_in.calls a0 1024 1119 false _ A25.out).mono ?_);rintro e w' ⟨rfl,⟨nd,rfl⟩⟩;refine ⟨_,rfl,?_⟩))
               go_ret
               exact ⟨by first | rfl | (simp;done) | (simp [*];done),by repeat (first | exact Drawn0.refl _ | apply Drawn0.step)⟩
mutual
def fold_Upper.j0 : Nat → Int → Bool → Option (Int)
 | 0,_,_=>none
 | k + 1,x0,x3=>if x3 = true then (some x0) else (if x0 = 255 then (some 376) else (if x0 = 962 then (some 931) else ((fold_in.f x0 97 122).bind fun t129=>(if t129 = true then (fold_Upper.j1 k x0 t129) else ((fold_in.f x0 224 254).bind fun t130=>(if t130 = true then (fold_Upper.j1 k x0 t130) else ((fold_in.f x0 945 969).bind fun t131=>(if t131 = true then (fold_Upper.j1 k x0 t131) else ((fold_in.f x0 1072 1103).bind fun t132=>(fold_Upper.j1 k x0 t132))))))))))
def fold_Upper.j1 : Nat → Int → Bool → Option (Int)
 | 0,_,_=>none
 | k + 1,x0,x15=>if x15 = true then (some (wrap32 (x0 - 32))) else ((fold_in.f x0 1104 1119).bind fun t133=>(if t133 = true then (some (wrap32 (x0 - 80))) else ((fold_in.f x0 256 311).bind fun t134=>(if t134 = true then (fold_Upper.j2 k x0 t134) else ((fold_in.f x0 330 375).bind fun t135=>(fold_Upper.j2 k x0 t135))))))
def fold_Upper.j2 : Nat → Int → Bool → Option (Int)
 | 0,_,_=>none
 | k + 1,x0,x31=>if x31 = true then (some (Go.bits .andNot .i32 x0 1)) else ((fold_in.f x0 313 328).bind fun t136=>(if t136 = true then (some (wrap32 ((wrap32 (x0 - 1)) + (Go.bits .and .i32 x0 1)))) else ((fold_in.f x0 377 382).bind fun t137=>(if t137 = true then (some (wrap32 ((wrap32 (x0 - 1)) + (Go.bits .and .i32 x0 1)))) else (some x0)))))
end
def fold_Upper.f (k : Nat) (a0 : Int) : Option (Int):=if a0 = 247 then (fold_Upper.j0 k a0 (a0 == 247)) else (fold_Upper.j0 k a0 (a0 == 305))
set_option maxHeartbeats 8000000 in
set_option maxRecDepth 100000 in
theorem fold_Upper.calls (k : Nat) (a0 : Int) (r : Int) (w : World) (h : fold_Upper.f k a0 = some r) :
  Calls Tryz.prog 66 #[.int .i32 a0] w fun e w'=>e = .returned (.int .i32 r) ∧ Drawn0 w w':=by
 have H : (if a0 = 247 then (fold_Upper.j0 k a0 (a0 == 247)) else (fold_Upper.j0 k a0 (a0 == 305))) = some r:=h
 clear h
 have HC2:=Aside0.mk H
 clear H
 go_enter Tryz.func66,Tryz.ntmps66
 go_upto_if 3 with (fail)
 go_cut [3] (fun v3 wc=>∃ (kq : Nat) (x3_1 : Bool),v3 = .bool x3_1 ∧ Aside0 (fold_Upper.j0 kq a0 x3_1 = some r) ∧ Aside0 (kq ≤ k) ∧ Drawn0 w wc)
 case first =>
  have H:=HC2.out
  clear HC2
  by_cases c3 : a0 = 247
  ·rw [if_pos c3] at H
   have c3b0 : (a0 == 247) = true:=beq_iff_eq.mpr c3
   have c3b1 : (a0 != 247) = false:=bne_eq_false_iff_eq.mpr c3
   clear c3
   (first | rw [c3b0] | (simp only [i64_w,i32_w];rw [c3b0]) | skip)
   have H':=Aside0.mk H
   clear H
   go_wp2
   go_meet
   case rel=>exact ⟨_,((a0 == 247)),(by first | rfl | (simp;done) | (simp [*];done)),H',⟨by first | omega | exact Nat.le_refl _⟩,by repeat (first | exact Drawn0.refl _ | apply Drawn0.step)⟩
  ·rw [if_neg c3] at H
   have c3b0 : (a0 == 247) = false:=beq_eq_false_iff_ne.mpr c3
   have c3b1 : (a0 != 247) = true:=bne_iff_ne.mpr c3
   (first | rw [c3b0] | (simp only [i64_w,i32_w];rw [c3b0]) | skip)
   have H':=Aside0.mk H
   clear H
   go_wp2
   go_meet
   case rel=>exact ⟨_,((a0 == 305)),(by first | rfl | (simp;done) | (simp [*];done)),H',⟨by first | omega | exact Nat.le_refl _⟩,by repeat (first | exact Drawn0.refl _ | apply Drawn0.step)⟩
 case rest =>
  clear HC2
  try clear p2
  try clear c3
  try clear c3b0
  try clear c3b1
  obtain ⟨kq,x3_1,rfl,HA,HJ1,⟨mc1,rfl⟩⟩:=hcut
  cases kq with
  | zero=>exact absurd HA.out (by simp [fold_Upper.j0])
  | succ kj1 =>
   have H:=HA.out
   clear HA
   simp only [fold_Upper.j0] at H
   by_cases c4 : x3_1 = true
   ·subst c4
    have H1 : (some a0) = some r:=by rw [if_pos rfl] at H;exact H
    clear H
    have H:=H1
    clear H1
    obtain rfl:=Option.some.inj H
    go_wp2
    go_ret
    exact ⟨by first | rfl | (simp;done) | (simp [*];done),by repeat (first | exact Drawn0.refl _ | apply Drawn0.step)⟩
   ·replace c4:=Bool.eq_false_iff.mpr c4
    subst c4
    have H1 : (if a0 = 255 then (some 376) else (if a0 = 962 then (some 931) else ((fold_in.f a0 97 122).bind fun t129=>(if t129 = true then (fold_Upper.j1 kj1 a0 t129) else ((fold_in.f a0 224 254).bind fun t130=>(if t130 = true then (fold_Upper.j1 kj1 a0 t130) else ((fold_in.f a0 945 969).bind fun t131=>(if t131 = true then (fold_Upper.j1 kj1 a0 t131) else ((fold_in.f a0 1072 1103).bind fun t132=>(fold_Upper.j1 kj1 a0 t132)))))))))) = some r:=by rw [if_neg (show ¬ (false = true) by decide)] at H;exact H
    clear H
    have H:=H1
    clear H1
    by_cases c5 : a0 = 255
    ·rw [if_pos c5] at H
     have c5b0 : (a0 == 255) = true:=beq_iff_eq.mpr c5
     have c5b1 : (a0 != 255) = false:=bne_eq_false_iff_eq.mpr c5
     clear c5
     obtain rfl:=Option.some.inj H
     go_wp2
     go_ret
     exact ⟨by first | rfl | (simp;done) | (simp [*];done),by repeat (first | exact Drawn0.refl _ | apply Drawn0.step)⟩
    ·rw [if_neg c5] at H
     have c5b0 : (a0 == 255) = false:=beq_eq_false_iff_ne.mpr c5
     have c5b1 : (a0 != 255) = true:=bne_iff_ne.mpr c5
     by_cases c6 : a0 = 962
     ·rw [if_pos c6] at H
      have c6b0 : (a0 == 962) = true:=beq_iff_eq.mpr c6
      have c6b1 : (a0 != 962) = false:=bne_eq_false_iff_eq.mpr c6
      clear c6
      obtain rfl:=Option.some.inj H
      go_wp2
      go_ret
      exact ⟨by first | rfl | (simp;done) | (simp [*];done),by repeat (first | exact Drawn0.refl _ | apply Drawn0.step)⟩
     ·rw [if_neg c6] at H
      have c6b0 : (a0 == 962) = false:=beq_eq_false_iff_ne.mpr c6
      have c6b1 : (a0 != 962) = true:=bne_iff_ne.mpr c6
      replace H:=Option.bind_eq_some_iff.mp H
      obtain ⟨t129,A70,H⟩:=H
      replace H : (if t129 = true then (fold_Upper.j1 kj1 a0 t129) else ((fold_in.f a0 224 254).bind fun t130=>(if t130 = true then (fold_Upper.j1 kj1 a0 t130) else ((fold_in.f a0 945 969).bind fun t131=>(if t131 = true then (fold_Upper.j1 kj1 a0 t131) else ((fold_in.f a0 1072 1103).bind fun t132=>(fold_Upper.j1 kj1 a0 t132))))))) = some r:=H
      have A7:=Aside0.mk A70
      clear A70
      have HC8:=Aside0.mk H
      clear H
      go_upto_if 15 with (first | ((with_reducible refine gate_callee (f:=94) rfl ?_);refine goesL_ (some 17) rfl rfl Tryz.func94 (by kernel_rfl) rfl #[.int .i32 a0,.int .i32 97,.int .i32 122] rfl (by (try simp only [List.map_toArray,List.map_cons,List.map_nil]);first | done | rfl | (simp only [List.length_drop,List.length_take];rfl)) ?_;(with_reducible refine (fold_in.calls a0 97 122 t129 _ A7.out).mono ?_);rintro e w' ⟨rfl,⟨nd,rfl⟩⟩;refine ⟨_,rfl,?_⟩))
      (try simp only [Act.put,List.setIfInBounds_toArray,List.set_cons_zero,List.set_cons_succ])
      go_cut [15] (fun v15 wc=>∃ (kq : Nat) (x15_7 : Bool),v15 = .bool x15_7 ∧ Aside0 (fold_Upper.j1 kq a0 x15_7 = some r) ∧ Aside0 (kq ≤ kj1) ∧ Drawn0 w wc)
      case first =>
       have H:=HC8.out
       clear HC8
       by_cases c9 : t129 = true
       ·subst c9
        have H1 : (fold_Upper.j1 kj1 a0 true) = some r:=by rw [if_pos rfl] at H;exact H
        clear H
        have H:=H1
        clear H1
        have H':=Aside0.mk H
        clear H
        go_wp2
        go_meet
        case rel=>exact ⟨_,(true),(by first | rfl | (simp;done) | (simp [*];done)),H',⟨by have:=HJ1.out;first | omega | exact Nat.le_refl _⟩,by repeat (first | exact Drawn0.refl _ | apply Drawn0.step)⟩
       ·replace c9:=Bool.eq_false_iff.mpr c9
        subst c9
        have H1 : ((fold_in.f a0 224 254).bind fun t130=>(if t130 = true then (fold_Upper.j1 kj1 a0 t130) else ((fold_in.f a0 945 969).bind fun t131=>(if t131 = true then (fold_Upper.j1 kj1 a0 t131) else ((fold_in.f a0 1072 1103).bind fun t132=>(fold_Upper.j1 kj1 a0 t132)))))) = some r:=by rw [if_neg (show ¬ (false = true) by decide)] at H;exact H
        clear H
        have H:=H1
        clear H1
        replace H:=Option.bind_eq_some_iff.mp H
        obtain ⟨t130,A100,H⟩:=H
        replace H : (if t130 = true then (fold_Upper.j1 kj1 a0 t130) else ((fold_in.f a0 945 969).bind fun t131=>(if t131 = true then (fold_Upper.j1 kj1 a0 t131) else ((fold_in.f a0 1072 1103).bind fun t132=>(fold_Upper.j1 kj1 a0 t132))))) = some r:=H
        have A10:=Aside0.mk A100
        clear A100
        by_cases c11 : t130 = true
        ·subst c11
         have H1 : (fold_Upper.j1 kj1 a0 true) = some r:=by rw [if_pos rfl] at H;exact H
         clear H
         have H:=H1
         clear H1
         have H':=Aside0.mk H
         clear H
         go_wp2_with (first | ((with_reducible refine gate_callee (f:=94) rfl ?_);refine goesL_ (some 19) rfl rfl Tryz.func94 (by kernel_rfl) rfl #[.int .i32 a0,.int .i32 224,.int .i32 254] rfl (by (try simp only [List.map_toArray,List.map_cons,List.map_nil]);first | done | rfl | (simp only [List.length_drop,List.length_take];rfl)) ?_;(with_reducible refine (fold_in.calls a0 224 254 true _ A10.out).mono ?_);rintro e w' ⟨rfl,⟨nd,rfl⟩⟩;refine ⟨_,rfl,?_⟩))
         go_meet
         case rel=>exact ⟨_,(true),(by first | rfl | (simp;done) | (simp [*];done)),H',⟨by have:=HJ1.out;first | omega | exact Nat.le_refl _⟩,by repeat (first | exact Drawn0.refl _ | apply Drawn0.step)⟩
        ·replace c11:=Bool.eq_false_iff.mpr c11
         subst c11
         have H1 : ((fold_in.f a0 945 969).bind fun t131=>(if t131 = true then (fold_Upper.j1 kj1 a0 t131) else ((fold_in.f a0 1072 1103).bind fun t132=>(fold_Upper.j1 kj1 a0 t132)))) = some r:=by rw [if_neg (show ¬ (false = true) by decide)] at H;exact H
         clear H
         have H:=H1
         clear H1
         replace H:=Option.bind_eq_some_iff.mp H
         obtain ⟨t131,A120,H⟩:=H
         replace H : (if t131 = true then (fold_Upper.j1 kj1 a0 t131) else ((fold_in.f a0 1072 1103).bind fun t132=>(fold_Upper.j1 kj1 a0 t132))) = some r:=H
         have A12:=Aside0.mk A120
         clear A120
         by_cases c13 : t131 = true
         ·subst c13
          have H1 : (fold_Upper.j1 kj1 a0 true) = some r:=by rw [if_pos rfl] at H;exact H
          clear H
          have H:=H1
          clear H1
          have H':=Aside0.mk H
          clear H
          go_wp2_with (first | ((with_reducible refine gate_callee (f:=94) rfl ?_);refine goesL_ (some 19) rfl rfl Tryz.func94 (by kernel_rfl) rfl #[.int .i32 a0,.int .i32 224,.int .i32 254] rfl (by (try simp only [List.map_toArray,List.map_cons,List.map_nil]);first | done | rfl | (simp only [List.length_drop,List.length_take];rfl)) ?_;(with_reducible refine (fold_in.calls a0 224 254 false _ A10.out).mono ?_);rintro e w' ⟨rfl,⟨nd,rfl⟩⟩;refine ⟨_,rfl,?_⟩) | ((with_reducible refine gate_callee (f:=94) rfl ?_);refine goesL_ (some 21) rfl rfl Tryz.func94 (by kernel_rfl) rfl #[.int .i32 a0,.int .i32 945,.int .i32 969] rfl (by (try simp only [List.map_toArray,List.map_cons,List.map_nil]);first | done | rfl | (simp only [List.length_drop,List.length_take];rfl)) ?_;(with_reducible refine (fold_in.calls a0 945 969 true _ A12.out).mono ?_);rintro e w' ⟨rfl,⟨nd,rfl⟩⟩;refine ⟨_,rfl,?_⟩))
          go_meet
          case rel=>exact ⟨_,(true),(by first | rfl | (simp;done) | (simp [*];done)),H',⟨by have:=HJ1.out;first | omega | exact Nat.le_refl _⟩,by repeat (first | exact Drawn0.refl _ | apply Drawn0.step)⟩
         ·replace c13:=Bool.eq_false_iff.mpr c13
          subst c13
          have H1 : ((fold_in.f a0 1072 1103).bind fun t132=>(fold_Upper.j1 kj1 a0 t132)) = some r:=by rw [if_neg (show ¬ (false = true) by decide)] at H;exact H
          clear H
          have H:=H1
          clear H1
          replace H:=Option.bind_eq_some_iff.mp H
          obtain ⟨t132,A140,H⟩:=H
          replace H : (fold_Upper.j1 kj1 a0 t132) = some r:=H
          have A14:=Aside0.mk A140
          clear A140
          have H':=Aside0.mk H
          clear H
          go_wp2_with (first | ((with_reducible refine gate_callee (f:=94) rfl ?_);refine goesL_ (some 19) rfl rfl Tryz.func94 (by kernel_rfl) rfl #[.int .i32 a0,.int .i32 224,.int .i32 254] rfl (by (try simp only [List.map_toArray,List.map_cons,List.map_nil]);first | done | rfl | (simp only [List.length_drop,List.length_take];rfl)) ?_;(with_reducible refine (fold_in.calls a0 224 254 false _ A10.out).mono ?_);rintro e w' ⟨rfl,⟨nd,rfl⟩⟩;refine ⟨_,rfl,?_⟩) | ((with_reducible refine gate_callee (f:=94) rfl ?_);refine goesL_ (some 21) rfl rfl Tryz.func94 (by kernel_rfl) rfl #[.int .i32 a0,.int .i32 945,.int .i32 969] rfl (by (try simp only [List.map_toArray,List.map_cons,List.map_nil]);first | done | rfl | (simp only [List.length_drop,List.length_take];rfl)) ?_;(with_reducible refine (fold_in.calls a0 945 969 false _ A12.out).mono ?_);rintro e w' ⟨rfl,⟨nd,rfl⟩⟩;refine ⟨_,rfl,?_⟩) | ((with_reducible refine gate_callee (f:=94) rfl ?_);refine goesL_ (some 23) rfl rfl Tryz.func94 (by kernel_rfl) rfl #[.int .i32 a0,.int .i32 1072,.int .i32 1103] rfl (by (try simp only [List.map_toArray,List.map_cons,List.map_nil]);first | done | rfl | (simp only [List.length_drop,List.length_take];rfl)) ?_;(with_reducible refine (fold_in.calls a0 1072 1103 t132 _ A14.out).mono ?_);rintro e w' ⟨rfl,⟨nd,rfl⟩⟩;refine ⟨_,rfl,?_⟩))
          go_meet
          case rel=>exact ⟨_,(t132),(by first | rfl | (simp;done) | (simp [*];done)),H',⟨by have:=HJ1.out;first | omega | exact Nat.le_refl _⟩,by repeat (first | exact Drawn0.refl _ | apply Drawn0.step)⟩
      case rest =>
       clear HC8
       try clear c1
       try clear p2
       try clear c3
       try clear c3b0
       try clear c3b1
       try clear c4
       try clear c5
       try clear c5b0
       try clear c5b1
       try clear c6
       try clear c6b0
       try clear c6b1
       try clear c9
       try clear c11
       try clear c13
       try clear p2
       obtain ⟨kq,x15_7,rfl,HA,HJ7,⟨mc7,rfl⟩⟩:=hcut
       cases kq with
       | zero=>exact absurd HA.out (by simp [fold_Upper.j1])
       | succ kj7 =>
        have H:=HA.out
        clear HA
        simp only [fold_Upper.j1] at H
        by_cases c15 : x15_7 = true
        ·subst c15
         have H1 : (some (wrap32 (a0 - 32))) = some r:=by rw [if_pos rfl] at H;exact H
         clear H
         have H:=H1
         clear H1
         obtain rfl:=Option.some.inj H
         go_wp2
         go_ret
         exact ⟨by first | rfl | (simp;done) | (simp [*];done),by repeat (first | exact Drawn0.refl _ | apply Drawn0.step)⟩
        ·replace c15:=Bool.eq_false_iff.mpr c15
         subst c15
         have H1 : ((fold_in.f a0 1104 1119).bind fun t133=>(if t133 = true then (some (wrap32 (a0 - 80))) else ((fold_in.f a0 256 311).bind fun t134=>(if t134 = true then (fold_Upper.j2 kj7 a0 t134) else ((fold_in.f a0 330 375).bind fun t135=>(fold_Upper.j2 kj7 a0 t135)))))) = some r:=by rw [if_neg (show ¬ (false = true) by decide)] at H;exact H
         clear H
         have H:=H1
         clear H1
         replace H:=Option.bind_eq_some_iff.mp H
         obtain ⟨t133,A160,H⟩:=H
         replace H : (if t133 = true then (some (wrap32 (a0 - 80))) else ((fold_in.f a0 256 311).bind fun t134=>(if t134 = true then (fold_Upper.j2 kj7 a0 t134) else ((fold_in.f a0 330 375).bind fun t135=>(fold_Upper.j2 kj7 a0 t135))))) = some r:=H
         have A16:=Aside0.mk A160
         clear A160
         by_cases c17 : t133 = true
         ·subst c17
          have H1 : (some (wrap32 (a0 - 80))) = some r:=by rw [if_pos rfl] at H;exact H
          clear H
          have H:=H1
          clear H1
          obtain rfl:=Option.some.inj H
          go_wp2_with (first | ((with_reducible refine gate_callee (f:=94) rfl ?_);refine goesL_ (some 28) rfl rfl Tryz.func94 (by kernel_rfl) rfl #[.int .i32 a0,.int .i32 1104,.int .i32 1119] rfl (by (try simp only [List.map_toArray,List.map_cons,List.map_nil]);first | done | rfl | (simp only [List.length_drop,List.length_take];rfl)) ?_;(with_reducible refine (fold_in.calls a0 1104 1119 true _ A16.out).mono ?_);rintro e w' ⟨rfl,⟨nd,rfl⟩⟩;refine ⟨_,rfl,?_⟩))
          go_ret
          exact ⟨by first | rfl | (simp;done) | (simp [*];done),by repeat (first | exact Drawn0.refl _ | apply Drawn0.step)⟩
         ·replace c17:=Bool.eq_false_iff.mpr c17
          subst c17
          have H1 : ((fold_in.f a0 256 311).bind fun t134=>(if t134 = true then (fold_Upper.j2 kj7 a0 t134) else ((fold_in.f a0 330 375).bind fun t135=>(fold_Upper.j2 kj7 a0 t135)))) = some r:=by rw [if_neg (show ¬ (false = true) by decide)] at H;exact H
          clear H
          have H:=H1
          clear H1
          replace H:=Option.bind_eq_some_iff.mp H
          obtain ⟨t134,A180,H⟩:=H
          replace H : (if t134 = true then (fold_Upper.j2 kj7 a0 t134) else ((fold_in.f a0 330 375).bind fun t135=>(fold_Upper.j2 kj7 a0 t135))) = some r:=H
          have A18:=Aside0.mk A180
          clear A180
          have HC19:=Aside0.mk H
          clear H
          go_upto_if 31 with (first | ((with_reducible refine gate_callee (f:=94) rfl ?_);refine goesL_ (some 28) rfl rfl Tryz.func94 (by kernel_rfl) rfl #[.int .i32 a0,.int .i32 1104,.int .i32 1119] rfl (by (try simp only [List.map_toArray,List.map_cons,List.map_nil]);first | done | rfl | (simp only [List.length_drop,List.length_take];rfl)) ?_;(with_reducible refine (fold_in.calls a0 1104 1119 false _ A16.out).mono ?_);rintro e w' ⟨rfl,⟨nd,rfl⟩⟩;refine ⟨_,rfl,?_⟩) | ((with_reducible refine gate_callee (f:=94) rfl ?_);refine goesL_ (some 33) rfl rfl Tryz.func94 (by kernel_rfl) rfl #[.int .i32 a0,.int .i32 256,.int .i32 311] rfl (by (try simp only [List.map_toArray,List.map_cons,List.map_nil]);first | done | rfl | (simp only [List.length_drop,List.length_take];rfl)) ?_;(with_reducible refine (fold_in.calls a0 256 311 t134 _ A18.out).mono ?_);rintro e w' ⟨rfl,⟨nd,rfl⟩⟩;refine ⟨_,rfl,?_⟩))
          (try simp only [Act.put,List.setIfInBounds_toArray,List.set_cons_zero,List.set_cons_succ])
          go_cut [31] (fun v31 wc=>∃ (kq : Nat) (x31_18 : Bool),v31 = .bool x31_18 ∧ Aside0 (fold_Upper.j2 kq a0 x31_18 = some r) ∧ Aside0 (kq ≤ kj7) ∧ Drawn0 w wc)
          case first =>
           have H:=HC19.out
           clear HC19
           by_cases c20 : t134 = true
           ·subst c20
            have H1 : (fold_Upper.j2 kj7 a0 true) = some r:=by rw [if_pos rfl] at H;exact H
            clear H
            have H:=H1
            clear H1
            have H':=Aside0.mk H
            clear H
            go_wp2
            go_meet
            case rel=>exact ⟨_,(true),(by first | rfl | (simp;done) | (simp [*];done)),H',⟨by have:=HJ1.out;have:=HJ7.out;first | omega | exact Nat.le_refl _⟩,by repeat (first | exact Drawn0.refl _ | apply Drawn0.step)⟩
           ·replace c20:=Bool.eq_false_iff.mpr c20
            subst c20
            have H1 : ((fold_in.f a0 330 375).bind fun t135=>(fold_Upper.j2 kj7 a0 t135)) = some r:=by rw [if_neg (show ¬ (false = true) by decide)] at H;exact H
            clear H
            have H:=H1
            clear H1
            replace H:=Option.bind_eq_some_iff.mp H
            obtain ⟨t135,A210,H⟩:=H
            replace H : (fold_Upper.j2 kj7 a0 t135) = some r:=H
            have A21:=Aside0.mk A210
            clear A210
            have H':=Aside0.mk H
            clear H
            go_wp2_with (first | ((with_reducible refine gate_callee (f:=94) rfl ?_);refine goesL_ (some 35) rfl rfl Tryz.func94 (by kernel_rfl) rfl #[.int .i32 a0,.int .i32 330,.int .i32 375] rfl (by (try simp only [List.map_toArray,List.map_cons,List.map_nil]);first | done | rfl | (simp only [List.length_drop,List.length_take];rfl)) ?_;(with_reducible refine (fold_in.calls a0 330 375 t135 _ A21.out).mono ?_);rintro e w' ⟨rfl,⟨nd,rfl⟩⟩;refine ⟨_,rfl,?_⟩))
            go_meet
            case rel=>exact ⟨_,(t135),(by first | rfl | (simp;done) | (simp [*];done)),H',⟨by have:=HJ1.out;have:=HJ7.out;first | omega | exact Nat.le_refl _⟩,by repeat (first | exact Drawn0.refl _ | apply Drawn0.step)⟩
          case rest =>
           clear HC19
           try clear c1
           try clear c2
           try clear p2
           try clear c3
           try clear c3b0
           try clear c3b1
           try clear p3
           try clear c4
           try clear c5
           try clear c5b0
           try clear c5b1
           try clear c6
           try clear c6b0
           try clear c6b1
           try clear c7
           try clear c9
           try clear c11
           try clear c13
           try clear c15
           try clear c17
           try clear c20
           try clear p2
           obtain ⟨kq,x31_18,rfl,HA,HJ18,⟨mc18,rfl⟩⟩:=hcut
           cases kq with
           | zero=>exact absurd HA.out (by simp [fold_Upper.j2])
           | succ kj18 =>
            have H:=HA.out
            clear HA
            simp only [fold_Upper.j2] at H
            by_cases c22 : x31_18 = true
            ·subst c22
             have H1 : (some (Go.bits .andNot .i32 a0 1)) = some r:=by rw [if_pos rfl] at H;exact H
             clear H
             have H:=H1
             clear H1
             obtain rfl:=Option.some.inj H
             go_wp2
             go_ret
             exact ⟨by first | rfl | (simp;done) | (simp [*];done),by repeat (first | exact Drawn0.refl _ | apply Drawn0.step)⟩
            ·replace c22:=Bool.eq_false_iff.mpr c22
             subst c22
             have H1 : ((fold_in.f a0 313 328).bind fun t136=>(if t136 = true then (some (wrap32 ((wrap32 (a0 - 1)) + (Go.bits .and .i32 a0 1)))) else ((fold_in.f a0 377 382).bind fun t137=>(if t137 = true then (some (wrap32 ((wrap32 (a0 - 1)) + (Go.bits .and .i32 a0 1)))) else (some a0))))) = some r:=by rw [if_neg (show ¬ (false = true) by decide)] at H;exact H
             clear H
             have H:=H1
             clear H1
             replace H:=Option.bind_eq_some_iff.mp H
             obtain ⟨t136,A230,H⟩:=H
             replace H : (if t136 = true then (some (wrap32 ((wrap32 (a0 - 1)) + (Go.bits .and .i32 a0 1)))) else ((fold_in.f a0 377 382).bind fun t137=>(if t137 = true then (some (wrap32 ((wrap32 (a0 - 1)) + (Go.bits .and .i32 a0 1)))) else (some a0)))) = some r:=H
             have A23:=Aside0.mk A230
             clear A230
             by_cases c24 : t136 = true
             ·subst c24
              have H1 : (some (wrap32 ((wrap32 (a0 - 1)) + (Go.bits .and .i32 a0 1)))) = some r:=by rw [if_pos rfl] at H;exact H
              clear H
              have H:=H1
              clear H1
              obtain rfl:=Option.some.inj H
              go_wp2_with (first | ((with_reducible refine gate_callee (f:=94) rfl ?_);refine goesL_ (some 40) rfl rfl Tryz.func94 (by kernel_rfl) rfl #[.int .i32 a0,.int .i32 313,.int .i32 328] rfl (by (try simp only [List.map_toArray,List.map_cons,List.map_nil]);first | done | rfl | (simp only [List.length_drop,List.length_take];rfl)) ?_;(with_reducible refine (fold_in.calls a0 313 328 true _ A23.out).mono ?_);rintro e w' ⟨rfl,⟨nd,rfl⟩⟩;refine ⟨_,rfl,?_⟩))
              go_ret
              exact ⟨by first | rfl | (simp;done) | (simp [*];done),by repeat (first | exact Drawn0.refl _ | apply Drawn0.step)⟩
             ·replace c24:=Bool.eq_false_iff.mpr c24
              subst c24
              have H1 : ((fold_in.f a0 377 382).bind fun t137=>(if t137 = true then (some (wrap32 ((wrap32 (a0 - 1)) + (Go.bits .and .i32 a0 1)))) else (some a0))) = some r:=by rw [if_neg (show ¬ (false = true) by decide)] at H;exact H
              clear H
              have H:=H1
              clear H1
              replace H:=Option.bind_eq_some_iff.mp H
              obtain ⟨t137,A250,H⟩:=H
              replace H : (if t137 = true then (some (wrap32 ((wrap32 (a0 - 1)) + (Go.bits .and .i32 a0 1)))) else (some a0)) = some r:=H
              have A25:=Aside0.mk A250
              clear A250
              by_cases c26 : t137 = true
              ·subst c26
               have H1 : (some (wrap32 ((wrap32 (a0 - 1)) + (Go.bits .and .i32 a0 1)))) = some r:=by rw [if_pos rfl] at H;exact H
               clear H
               have H:=H1
               clear H1
               obtain rfl:=Option.some.inj H
               go_wp2_with (first | ((with_reducible refine gate_callee (f:=94) rfl ?_);refine goesL_ (some 40) rfl rfl Tryz.func94 (by kernel_rfl) rfl #[.int .i32 a0,.int .i32 313,.int .i32 328] rfl (by (try simp only [List.map_toArray,List.map_cons,List.map_nil]);first | done | rfl | (simp only [List.length_drop,List.length_take];rfl)) ?_;(with_reducible refine (fold_in.calls a0 313 328 false _ A23.out).mono ?_);rintro e w' ⟨rfl,⟨nd,rfl⟩⟩;refine ⟨_,rfl,?_⟩) | ((with_reducible refine gate_callee (f:=94) rfl ?_);refine goesL_ (some 42) rfl rfl Tryz.func94 (by kernel_rfl) rfl #[.int .i32 a0,.int .i32 377,.int .i32 382] rfl (by (try simp only [List.map_toArray,List.map_cons,List.map_nil]);first | done | rfl | (simp only [List.length_drop,List.length_take];rfl)) ?_;(with_reducible refine (fold_in.calls a0 377 382 true _ A25.out).mono ?_);rintro e w' ⟨rfl,⟨nd,rfl⟩⟩;refine ⟨_,rfl,?_⟩))
               go_ret
               exact ⟨by first | rfl | (simp;done) | (simp [*];done),by repeat (first | exact Drawn0.refl _ | apply Drawn0.step)⟩
              ·replace c26:=Bool.eq_false_iff.mpr c26
               subst c26
               have H1 : (some a0) = some r:=by rw [if_neg (show ¬ (false = true) by decide)] at H;exact H
               clear H
               have H:=H1
               clear H1
               obtain rfl:=Option.some.inj H
               go_wp2_with (first | ((with_reducible refine gate_callee (f:=94) rfl ?_);refine goesL_ (some 40) rfl rfl Tryz.func94 (by kernel_rfl) rfl #[.int .i32 a0,.int .i32 313,.int .i32 328] rfl (by (try simp only [List.map_toArray,List.map_cons,List.map_nil]);first | done | rfl | (simp only [List.length_drop,List.length_take];rfl)) ?_;(with_reducible refine (fold_in.calls a0 313 328 false _ A23.out).mono ?_);rintro e w' ⟨rfl,⟨nd,rfl⟩⟩;refine ⟨_,rfl,?_⟩) | ((with_reducible refine gate_callee (f:=94) rfl ?_);refine goesL_ (some 42) rfl rfl Tryz.func94 (by kernel_rfl) rfl #[.int .i32 a0,.int .i32 377,.int .i32 382] rfl (by (try simp only [List.map_toArray,List.map_cons,List.map_nil]);first | done | rfl | (simp only [List.length_drop,List.length_take];rfl)) ?_;(with_reducible refine (fold_in.calls a0 377 382 false _ A25.out).mono ?_);rintro e w' ⟨rfl,⟨nd,rfl⟩⟩;refine ⟨_,rfl,?_⟩))
               go_ret
               exact ⟨by first | rfl | (simp;done) | (simp [*];done),by repeat (first | exact Drawn0.refl _ | apply Drawn0.step)⟩
end Go.Proofs.YtpfbcepgmigeiaaGreatDoor.Q
end
section
namespace Go.Proofs.YtpfbcepgmigeiaaGreatDoor.Q
open Go.RowKit Go.Proofs.YtpfbcepgmigeiaaGreatDoorW.PrintWords Go.Proofs.YtpfbcepgmigeiaaGreatDoorW.PrintLast Go.Proofs.YtpfbcepgmigeiaaGreatDoorW.PrintMore
attribute [local go_sem] max2_int min2_int max_two min_two max_three min_three max_four min_four
set_option linter.unusedVariables false
set_option linter.unusedSimpArgs false
open Go.Proofs.YtpfbcepgmigeiaaGreatDoorS
theorem fold_Class_eq (r : Int) : fold_Class.f 3 r = some (uclass r):=by
 by_cases h : 0 ≤ r ∧ r < 1200
 ·have hh : ∀ n : Nat,n < 1200 → fold_Class.f 3 (n : Int) = some (uclass n):=by decide +kernel
  have:=hh r.toNat (by omega)
  rwa [show ((r.toNat : Nat) : Int) = r from by omega] at this
 ·have hu : uclass r = 0:=by unfold uclass;repeat rw [if_neg (by omega)]
  rw [hu]
  by_cases h0 : r < 0
  ·simp [fold_Class.f,fold_Class.j0,fold_Class.j1,fold_in.f,show ¬ (48 ≤ r) by omega,show ¬ (9 ≤ r) by omega,show ¬ (768 ≤ r) by omega,show ¬ (65 ≤ r) by omega,show ¬ (97 ≤ r) by omega,show ¬ (192 ≤ r) by omega,show ¬ (913 ≤ r) by omega,show ¬ (945 ≤ r) by omega,show ¬ (1024 ≤ r) by omega,show ¬ (r = 32) by omega,show ¬ (r = 160) by omega,show ¬ (r = 215) by omega,show ¬ (r = 247) by omega,show ¬ (r = 930) by omega]
  ·have h1 : 1200 ≤ r:=by omega
   simp [fold_Class.f,fold_Class.j0,fold_Class.j1,fold_in.f,show (48 ≤ r) by omega,show (9 ≤ r) by omega,show (768 ≤ r) by omega,show (65 ≤ r) by omega,show (97 ≤ r) by omega,show (192 ≤ r) by omega,show (913 ≤ r) by omega,show (945 ≤ r) by omega,show (1024 ≤ r) by omega,show ¬ (r ≤ 57) by omega,show ¬ (r ≤ 13) by omega,show ¬ (r ≤ 879) by omega,show ¬ (r ≤ 90) by omega,show ¬ (r ≤ 122) by omega,show ¬ (r ≤ 383) by omega,show ¬ (r ≤ 937) by omega,show ¬ (r ≤ 969) by omega,show ¬ (r ≤ 1119) by omega,show ¬ (r = 32) by omega,show ¬ (r = 160) by omega,show ¬ (r = 215) by omega,show ¬ (r = 247) by omega,show ¬ (r = 930) by omega]
theorem fold_Upper_eq (r : Int) (h0 : -2147483648 ≤ r) (h1 : r ≤ 2147483647) : fold_Upper.f 4 r = some (uupper r):=by
 by_cases h : 0 ≤ r ∧ r < 1200
 ·have hh : ∀ n : Nat,n < 1200 → fold_Upper.f 4 (n : Int) = some (uupper n):=by decide +kernel
  have:=hh r.toNat (by omega)
  rwa [show ((r.toNat : Nat) : Int) = r from by omega] at this
 ·have hu : uupper r = r:=by unfold uupper;repeat rw [if_neg (by omega)]
  rw [hu]
  by_cases h2 : r < 0
  ·simp [fold_Upper.f,fold_Upper.j0,fold_Upper.j1,fold_Upper.j2,fold_in.f,show ¬ (97 ≤ r) by omega,show ¬ (224 ≤ r) by omega,show ¬ (945 ≤ r) by omega,show ¬ (1072 ≤ r) by omega,show ¬ (1104 ≤ r) by omega,show ¬ (256 ≤ r) by omega,show ¬ (330 ≤ r) by omega,show ¬ (313 ≤ r) by omega,show ¬ (377 ≤ r) by omega,show ¬ (r = 247) by omega,show ¬ (r = 305) by omega,show ¬ (r = 255) by omega,show ¬ (r = 962) by omega]
  ·have h3 : 1200 ≤ r:=by omega
   simp [fold_Upper.f,fold_Upper.j0,fold_Upper.j1,fold_Upper.j2,fold_in.f,show (97 ≤ r) by omega,show (224 ≤ r) by omega,show (945 ≤ r) by omega,show (1072 ≤ r) by omega,show (1104 ≤ r) by omega,show (256 ≤ r) by omega,show (330 ≤ r) by omega,show (313 ≤ r) by omega,show (377 ≤ r) by omega,show ¬ (r ≤ 122) by omega,show ¬ (r ≤ 254) by omega,show ¬ (r ≤ 969) by omega,show ¬ (r ≤ 1103) by omega,show ¬ (r ≤ 1119) by omega,show ¬ (r ≤ 311) by omega,show ¬ (r ≤ 375) by omega,show ¬ (r ≤ 328) by omega,show ¬ (r ≤ 382) by omega,show ¬ (r = 247) by omega,show ¬ (r = 305) by omega,show ¬ (r = 255) by omega,show ¬ (r = 962) by omega]
def page_letter.f (a0 : ByteArray) : Option Bool:=if a0.size ≤ 1099511627776 then some (uletter a0) else none
set_option maxHeartbeats 4000000 in
set_option maxRecDepth 1000000 in
theorem page_letter.calls (a0 : ByteArray) (r : Bool) (w : World) (h : page_letter.f a0 = some r) :
  Calls Tryz.prog 38 #[.string a0] w fun e w'=>e = .returned (.bool r) ∧ Below w.heap.size w w':=by
 obtain ⟨hs,rfl⟩:=guard_some h
 clear h
 have hcl:=ucount_le a0
 go_enter Tryz.func38,Tryz.ntmps38
 go_wp2
 go_loopw [3] (fun n wr=>∃ (pos f c : Nat),n = .int .i64 c ∧ wr.heap[w.heap.size]? = some (.stringIter a0 pos) ∧ Below w.heap.size w wr ∧ c + (ulist a0 f pos).length = ucount a0 ∧ uletter a0 = (((ulist a0 f pos).all fun t=>ugood t.2.1) && decide (1 ≤ ucount a0 ∧ ucount a0 ≤ 3)) ∧ a0.size ≤ pos + f) (fun _ wr=>a0.size - wr.iterPos w.heap.size)
 case atStart=>exact ⟨0,a0.size,0,rfl,World.iter_heap w a0 0,(Below.refl _ w).alloc (Nat.le_refl _) _,by simp [ucount,uall],by simp [uletter,urunes,uall,List.all_map,Function.comp_def],by omega⟩
 case round =>
  obtain ⟨pos,f,c,rfl,hit,hbw,hc,hl,hf⟩:=hrel
  by_cases hp : pos < a0.size
  ·have hnx : ∀ ty,(Instr.next (.pointer (some ⟨w.heap.size,0,none⟩)) true ty).run Tryz.prog wr = _:=fun ty=>Lib.run_next_any_at wr w.heap.size a0 pos ty hit hp
   have hwd:=width_pos a0 pos hp
   have hd1:=decode_le a0 pos
   have hit2:=Lib.iterAt_heap wr (w.heap.size) a0 pos (pos + (Utf8.decode a0 pos).2) hit
   have hbw2:=Lib.below_iterAt hbw (k:=w.heap.size) (by omega) a0 (pos + (Utf8.decode a0 pos).2)
   obtain ⟨f,rfl⟩ : ∃ f',f = f' + 1:=⟨f - 1,by omega⟩
   rw [ulist_step a0 f pos hp,List.length_cons] at hc
   rw [ulist_step a0 f pos hp,List.all_cons] at hl
   have hc2 : c + 1 ≤ ucount a0:=by omega
   replace hc:=Lib.hid hc
   by_cases h1 : uclass ((Utf8.decode a0 pos).1 : Int) = 1
   ·have h1b : (uclass ((Utf8.decode a0 pos).1 : Int) != 1) = false:=by simp [h1]
    by_cases h2 : uupper ((Utf8.decode a0 pos).1 : Int) = ((Utf8.decode a0 pos).1 : Int)
    ·have h2b : (uupper ((Utf8.decode a0 pos).1 : Int) != ((Utf8.decode a0 pos).1 : Int)) = false:=by simp [h2]
     have hl2 : uletter a0 = (((ulist a0 f (pos + (Utf8.decode a0 pos).2)).all fun t=>ugood t.2.1) && decide (1 ≤ ucount a0 ∧ ucount a0 ≤ 3)):=by rw [hl];simp [ugood,h1,h2]
     replace hl2:=Lib.hid hl2
     clear hl h1 h2
     go_wp2_with (first | (go_at_call 65;refine (fold_Class.calls 3 _ _ _ (fold_Class_eq _)).mono ?_;rintro e w3 ⟨rfl,hb3⟩;replace hb3:=hb3.below) | (go_at_call 66;refine (fold_Upper.calls 4 _ _ _ (fold_Upper_eq _ (by omega) (by omega))).mono ?_;rintro e w4 ⟨rfl,hb4⟩;replace hb4:=hb4.below))
     have hit4 : w4.heap[w.heap.size]? = some (.stringIter a0 (pos + (Utf8.decode a0 pos).2)):=(hb4.block _ (Nat.lt_of_lt_of_le (Array.getElem?_eq_some_iff.1 hit2).1 hb3.size)).trans ((hb3.block _ (Array.getElem?_eq_some_iff.1 hit2).1).trans hit2)
     go_roundw
     case rel=>exact ⟨pos + (Utf8.decode a0 pos).2,f,c + 1,by go_num,hit4,(hbw2.trans (hb3.mono hbw2.size)).trans (hb4.mono (Nat.le_trans hbw2.size hb3.size)),by have:=hc.out;omega,hl2.out,by omega⟩
     case measure=>simp only [World.iterPos,hit4,hit];omega
    ·have h2b : (uupper ((Utf8.decode a0 pos).1 : Int) != ((Utf8.decode a0 pos).1 : Int)) = true:=by simp [h2]
     have hl2 : uletter a0 = false:=by rw [hl];simp [ugood,h2]
     replace hl2:=Lib.hid hl2
     clear hl h1 h2
     go_wp2_with (first | (go_at_call 65;refine (fold_Class.calls 3 _ _ _ (fold_Class_eq _)).mono ?_;rintro e w3 ⟨rfl,hb3⟩;replace hb3:=hb3.below) | (go_at_call 66;refine (fold_Upper.calls 4 _ _ _ (fold_Upper_eq _ (by omega) (by omega))).mono ?_;rintro e w4 ⟨rfl,hb4⟩;replace hb4:=hb4.below))
     go_ret
     rw [hl2.out]
     exact ⟨rfl,(hbw2.trans (hb3.mono hbw2.size)).trans (hb4.mono (Nat.le_trans hbw2.size hb3.size))⟩
   ·have h1b : (uclass ((Utf8.decode a0 pos).1 : Int) != 1) = true:=by simp [h1]
    have hl2 : uletter a0 = false:=by rw [hl];simp [ugood,h1]
    replace hl2:=Lib.hid hl2
    clear hl h1
    go_wp2_with (first | (go_at_call 65;refine (fold_Class.calls 3 _ _ _ (fold_Class_eq _)).mono ?_;rintro e w3 ⟨rfl,hb3⟩;replace hb3:=hb3.below))
    go_ret
    rw [hl2.out]
    exact ⟨rfl,hbw2.trans (hb3.mono hbw2.size)⟩
  ·have hnx : ∀ ty,(Instr.next (.pointer (some ⟨w.heap.size,0,none⟩)) true ty).run Tryz.prog wr = _:=fun ty=>Lib.run_next_end_at wr (w.heap.size) a0 pos ty hit hp
   rw [ulist_end a0 f pos hp] at hc hl
   have hc : c = ucount a0:=hc
   subst hc
   have hl2 : uletter a0 = (decide (0 < (ucount a0 : Int)) && decide ((ucount a0 : Int) ≤ 3)):=by
    rw [hl,List.all_nil,Bool.true_and,Bool.eq_iff_iff]
    simp only [decide_eq_true_eq,Bool.and_eq_true]
    omega
   replace hl2:=Lib.hid hl2
   clear hl
   by_cases h0 : 0 < ucount a0
   ·go_wp2
    all_goals go_ret
    all_goals rw [hl2.out]
    all_goals exact ⟨by simp [h0],hbw⟩
   ·go_wp2
    all_goals go_ret
    all_goals rw [hl2.out]
    all_goals exact ⟨by simp [h0],hbw⟩
end Go.Proofs.YtpfbcepgmigeiaaGreatDoor.Q
end
