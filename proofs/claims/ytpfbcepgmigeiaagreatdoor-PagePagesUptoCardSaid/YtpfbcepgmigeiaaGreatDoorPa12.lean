/- PART 12 OF A PROOF: Lean functions, and that the program computes them; written by hand and by a program. Not trusted: Lean checks it. -/
import Derived.Lib.DecodeN
import Derived.Test.YtpfbcepgmigeiaaGreatDoorPa0
import Derived.Test.YtpfbcepgmigeiaaGreatDoorPa3
import Derived.Test.YtpfbcepgmigeiaaGreatDoorPa11
set_option linter.unusedVariables false
set_option linter.unusedSimpArgs false
section
namespace Go.Proofs.YtpfbcepgmigeiaaGreatDoor.Q
open Go.RowKit Go.Proofs.YtpfbcepgmigeiaaGreatDoorW.PrintWords Go.Proofs.YtpfbcepgmigeiaaGreatDoorW.PrintLast Go.Proofs.YtpfbcepgmigeiaaGreatDoorW.PrintMore
attribute [local go_sem] max2_int min2_int max_two min_two max_three min_three max_four min_four
set_option linter.unusedVariables false
set_option linter.unusedSimpArgs false
mutual
def rebusref01_Next.j0 : Nat → ByteArray → Int → Bool → Option (Int × Int)
 | 0,_,_,_=>none
 | k + 1,x0,x1,x19=>if x19 = true then (some (0,0)) else (if 0 ≤ x1 then (if x1 < (x0.size : Int) then ((rebusref01_row.f k (bt x0 x1)).bind fun bt190=>(if bt190.1 = 0 then (rebusref01_Next.j1 k x0 x1 bt190.1 bt190.2.1 bt190.2.2 true) else (rebusref01_Next.j1 k x0 x1 bt190.1 bt190.2.1 bt190.2.2 (decide ((wrap64 ((x0.size : Int) - x1)) < bt190.1))))) else (none)) else (none))
def rebusref01_Next.j1 : Nat → ByteArray → Int → Int → Int → Int → Bool → Option (Int × Int)
 | 0,_,_,_,_,_,_=>none
 | k + 1,x0,x1,x6,x7,x8,x37=>if x37 = true then (some (65533,1)) else (if 0 ≤ x1 then (if x1 < (x0.size : Int) then (if x6 = 2 then (rebusref01_Next.j2 k x0 x1 x6 x7 x8 (Int.tmod (wrap64 (bt x0 x1)) 32)) else (if x6 = 3 then (rebusref01_Next.j2 k x0 x1 x6 x7 x8 (Int.tmod (wrap64 (bt x0 x1)) 16)) else (if x6 = 4 then (rebusref01_Next.j2 k x0 x1 x6 x7 x8 (Int.tmod (wrap64 (bt x0 x1)) 8)) else (rebusref01_Next.j2 k x0 x1 x6 x7 x8 (wrap64 (bt x0 x1)))))) else (none)) else (none))
def rebusref01_Next.j2 : Nat → ByteArray → Int → Int → Int → Int → Int → Option (Int × Int)
 | 0,_,_,_,_,_,_=>none
 | k + 1,x0,x1,x6,x7,x8,x9=>rebusref01_Next.l0 k x0 x1 x6 x7 x8 x9 1
def rebusref01_Next.l0 : Nat → ByteArray → Int → Int → Int → Int → Int → Int → Option (Int × Int)
 | 0,_,_,_,_,_,_,_=>none
 | k + 1,x0,x1,x6,x7,x8,x9,x10=>if x10 < x6 then (if 0 ≤ (wrap64 (x1 + x10)) then (if (wrap64 (x1 + x10)) < (x0.size : Int) then (if x10 = 1 then (if (bt x0 (wrap64 (x1 + x10))) < x7 then (some (65533,1)) else (if (bt x0 (wrap64 (x1 + x10))) > x8 then (some (65533,1)) else (if (bt x0 (wrap64 (x1 + x10))) < 128 then (some (65533,1)) else (if (bt x0 (wrap64 (x1 + x10))) > 191 then (some (65533,1)) else (rebusref01_Next.l0 k x0 x1 x6 x7 x8 (wrap64 ((wrap64 (x9 * 64)) + (Int.tmod (wrap64 (bt x0 (wrap64 (x1 + x10)))) 64))) (wrap64 (x10 + 1))))))) else (if (bt x0 (wrap64 (x1 + x10))) < 128 then (some (65533,1)) else (if (bt x0 (wrap64 (x1 + x10))) > 191 then (some (65533,1)) else (rebusref01_Next.l0 k x0 x1 x6 x7 x8 (wrap64 ((wrap64 (x9 * 64)) + (Int.tmod (wrap64 (bt x0 (wrap64 (x1 + x10)))) 64))) (wrap64 (x10 + 1)))))) else (none)) else (none)) else (some (wrap32 (x9),x6))
end
def rebusref01_Next.f (k : Nat) (a0 : ByteArray) (a1 : Int) : Option (Int × Int):=if a1 < 0 then (rebusref01_Next.j0 k a0 a1 true) else (rebusref01_Next.j0 k a0 a1 (decide (a1 ≥ (a0.size : Int))))
set_option maxHeartbeats 8000000 in
set_option maxRecDepth 100000 in
theorem rebusref01_Next.calls (k : Nat) (a0 : ByteArray) (a1 : Int) (r1 : Int) (r2 : Int) (w : World) (h : rebusref01_Next.f k a0 a1 = some (r1,r2)) :
  Calls Tryz.prog 88 #[.string a0,.int .i64 a1] w fun e w'=>e = .returned (.tuple #[.int .i32 r1,.int .i64 r2]) ∧ Drawn0 w w':=by
 have H : (if a1 < 0 then (rebusref01_Next.j0 k a0 a1 true) else (rebusref01_Next.j0 k a0 a1 (decide (a1 ≥ (a0.size : Int))))) = some (r1,r2):=h
 clear h
 have HC3:=Aside0.mk H
 clear H
 go_enter Tryz.func88,Tryz.ntmps88
 go_upto_region 1 with (fail)
 go_cut [19] (fun v19 wc=>∃ (kq : Nat) (x19_2 : Bool),v19 = .bool x19_2 ∧ Aside0 (rebusref01_Next.j0 kq a0 a1 x19_2 = some (r1,r2)) ∧ Aside0 (kq ≤ k) ∧ Drawn0 w wc)
 case first =>
  have H:=HC3.out
  clear HC3
  by_cases c4 : a1 < 0
  ·rw [if_pos c4] at H
   have c4b0 : decide (a1 < 0) = true:=decide_eq_true c4
   clear c4
   (first | rw [c4b0] | (simp only [i64_w,i32_w];rw [c4b0]) | skip)
   have H':=Aside0.mk H
   clear H
   go_wp2
   go_meet
   case rel=>exact ⟨_,(true),(by first | rfl | (simp;done) | (simp [*];done)),H',⟨by first | omega | exact Nat.le_refl _⟩,by repeat (first | exact Drawn0.refl _ | apply Drawn0.step)⟩
  ·rw [if_neg c4] at H
   have c4b0 : decide (a1 < 0) = false:=decide_eq_false c4
   clear c4
   (first | rw [c4b0] | (simp only [i64_w,i32_w];rw [c4b0]) | skip)
   have H':=Aside0.mk H
   clear H
   go_wp2
   go_meet
   case rel=>exact ⟨_,(decide (a1 ≥ (a0.size : Int))),(by first | rfl | (simp;done) | (simp [*];done)),H',⟨by first | omega | exact Nat.le_refl _⟩,by repeat (first | exact Drawn0.refl _ | apply Drawn0.step)⟩
 case rest =>
  clear HC3
  try clear p2
  try clear c4
  try clear c4b0
  obtain ⟨kq,x19_2,rfl,HA,HJ2,⟨mc2,rfl⟩⟩:=hcut
  cases kq with
  | zero=>exact absurd HA.out (by simp [rebusref01_Next.j0])
  | succ kj2 =>
   have H:=HA.out
   clear HA
   simp only [rebusref01_Next.j0] at H
   by_cases c5 : x19_2 = true
   ·subst c5
    have H1 : (some (0,0)) = some (r1,r2):=by rw [if_pos rfl] at H;exact H
    clear H
    have H:=H1
    clear H1
    simp only [Option.some.injEq,Prod.mk.injEq] at H
    obtain ⟨rfl,rfl⟩:=H
    go_wp2
    go_ret2
    exact ⟨by first | rfl | (simp;done) | (simp [*];done),by repeat (first | exact Drawn0.refl _ | apply Drawn0.step)⟩
   ·replace c5:=Bool.eq_false_iff.mpr c5
    subst c5
    have H1 : (if 0 ≤ a1 then (if a1 < (a0.size : Int) then ((rebusref01_row.f kj2 (bt a0 a1)).bind fun bt190=>(if bt190.1 = 0 then (rebusref01_Next.j1 kj2 a0 a1 bt190.1 bt190.2.1 bt190.2.2 true) else (rebusref01_Next.j1 kj2 a0 a1 bt190.1 bt190.2.1 bt190.2.2 (decide ((wrap64 ((a0.size : Int) - a1)) < bt190.1))))) else (none)) else (none)) = some (r1,r2):=by rw [if_neg (show ¬ (false = true) by decide)] at H;exact H
    clear H
    have H:=H1
    clear H1
    by_cases c6 : 0 ≤ a1
    ·rw [if_pos c6] at H
     have c6b0 : decide (0 ≤ a1) = true:=decide_eq_true c6
     clear c6
     by_cases c7 : a1 < (a0.size : Int)
     ·rw [if_pos c7] at H
      have c7b0 : decide (a1 < (a0.size : Int)) = true:=decide_eq_true c7
      clear c7
      replace H:=Option.bind_eq_some_iff.mp H
      obtain ⟨⟨t190,t191,t192⟩,A90,H⟩:=H
      replace H : (if t190 = 0 then (rebusref01_Next.j1 kj2 a0 a1 t190 t191 t192 true) else (rebusref01_Next.j1 kj2 a0 a1 t190 t191 t192 (decide ((wrap64 ((a0.size : Int) - a1)) < t190)))) = some (r1,r2):=H
      have A9:=Aside0.mk A90
      clear A90
      have HC10:=Aside0.mk H
      clear H
      have p8 : 0 ≤ (a1 : Int):=of_decide_eq_true (by first | (with_reducible assumption) | assumption)
      have q8 : a1 < (a0.size : Int):=of_decide_eq_true (by first | (with_reducible assumption) | assumption)
      have hx8:=bt_at a0 a1
      replace p8:=eq_true p8
      replace q8:=eq_true q8
      go_upto_region 4 with (first | ((with_reducible refine gate_callee (f:=112) rfl ?_);refine goesL_ (some 24) rfl rfl Tryz.func112 (by kernel_rfl) rfl #[.int .u8 (bt a0 a1)] rfl (by (try simp only [List.map_toArray,List.map_cons,List.map_nil]);first | done | rfl | (simp only [List.length_drop,List.length_take];rfl)) ?_;(with_reducible refine (rebusref01_row.calls kj2 (bt a0 a1) t190 t191 t192 _ A9.out).mono ?_);rintro e w' ⟨rfl,⟨nd,rfl⟩⟩;refine ⟨_,rfl,?_⟩))
      (try simp only [Act.put,List.setIfInBounds_toArray,List.set_cons_zero,List.set_cons_succ])
      go_cut [37] (fun v37 wc=>∃ (kq : Nat) (x37_9 : Bool),v37 = .bool x37_9 ∧ Aside0 (rebusref01_Next.j1 kq a0 a1 t190 t191 t192 x37_9 = some (r1,r2)) ∧ Aside0 (kq ≤ kj2) ∧ Drawn0 w wc)
      case first =>
       have H:=HC10.out
       clear HC10
       by_cases c11 : t190 = 0
       ·rw [if_pos c11] at H
        have c11b0 : (t190 == 0) = true:=beq_iff_eq.mpr c11
        have c11b1 : (t190 != 0) = false:=bne_eq_false_iff_eq.mpr c11
        clear c11
        (first | rw [c11b0] | (simp only [i64_w,i32_w];rw [c11b0]) | skip)
        have H':=Aside0.mk H
        clear H
        go_wp2
        go_meet
        case rel=>exact ⟨_,(true),(by first | rfl | (simp;done) | (simp [*];done)),H',⟨by have:=HJ2.out;first | omega | exact Nat.le_refl _⟩,by repeat (first | exact Drawn0.refl _ | apply Drawn0.step)⟩
       ·rw [if_neg c11] at H
        have c11b0 : (t190 == 0) = false:=beq_eq_false_iff_ne.mpr c11
        have c11b1 : (t190 != 0) = true:=bne_iff_ne.mpr c11
        (first | rw [c11b0] | (simp only [i64_w,i32_w];rw [c11b0]) | skip)
        have H':=Aside0.mk H
        clear H
        go_wp2
        go_meet
        case rel=>exact ⟨_,(decide ((wrap64 ((a0.size : Int) - a1)) < t190)),(by first | rfl | (simp;done) | (simp [*];done)),H',⟨by have:=HJ2.out;first | omega | exact Nat.le_refl _⟩,by repeat (first | exact Drawn0.refl _ | apply Drawn0.step)⟩
      case rest =>
       clear HC10
       try clear c1
       try clear c2
       try clear p2
       try clear c4
       try clear c4b0
       try clear c5
       try clear c6
       try clear c6b0
       try clear p6
       try clear c7
       try clear c7b0
       try clear c8
       try clear p8
       try clear q8
       try clear hx8
       try clear c11
       try clear c11b0
       try clear c11b1
       try clear p2
       try clear p8
       try clear q8
       obtain ⟨kq,x37_9,rfl,HA,HJ9,⟨mc9,rfl⟩⟩:=hcut
       cases kq with
       | zero=>exact absurd HA.out (by simp [rebusref01_Next.j1])
       | succ kj9 =>
        have H:=HA.out
        clear HA
        simp only [rebusref01_Next.j1] at H
        by_cases c12 : x37_9 = true
        ·subst c12
         have H1 : (some (65533,1)) = some (r1,r2):=by rw [if_pos rfl] at H;exact H
         clear H
         have H:=H1
         clear H1
         simp only [Option.some.injEq,Prod.mk.injEq] at H
         obtain ⟨rfl,rfl⟩:=H
         go_wp2
         go_ret2
         exact ⟨by first | rfl | (simp;done) | (simp [*];done),by repeat (first | exact Drawn0.refl _ | apply Drawn0.step)⟩
        ·replace c12:=Bool.eq_false_iff.mpr c12
         subst c12
         have H1 : (if 0 ≤ a1 then (if a1 < (a0.size : Int) then (if t190 = 2 then (rebusref01_Next.j2 kj9 a0 a1 t190 t191 t192 (Int.tmod (wrap64 (bt a0 a1)) 32)) else (if t190 = 3 then (rebusref01_Next.j2 kj9 a0 a1 t190 t191 t192 (Int.tmod (wrap64 (bt a0 a1)) 16)) else (if t190 = 4 then (rebusref01_Next.j2 kj9 a0 a1 t190 t191 t192 (Int.tmod (wrap64 (bt a0 a1)) 8)) else (rebusref01_Next.j2 kj9 a0 a1 t190 t191 t192 (wrap64 (bt a0 a1)))))) else (none)) else (none)) = some (r1,r2):=by rw [if_neg (show ¬ (false = true) by decide)] at H;exact H
         clear H
         have H:=H1
         clear H1
         by_cases c13 : 0 ≤ a1
         ·rw [if_pos c13] at H
          have c13b0 : decide (0 ≤ a1) = true:=decide_eq_true c13
          clear c13
          by_cases c14 : a1 < (a0.size : Int)
          ·rw [if_pos c14] at H
           have c14b0 : decide (a1 < (a0.size : Int)) = true:=decide_eq_true c14
           clear c14
           have HC16:=Aside0.mk H
           clear H
           have p15 : 0 ≤ (a1 : Int):=of_decide_eq_true (by first | (with_reducible assumption) | assumption)
           have q15 : a1 < (a0.size : Int):=of_decide_eq_true (by first | (with_reducible assumption) | assumption)
           have hx15:=bt_at a0 a1
           replace p15:=eq_true p15
           replace q15:=eq_true q15
           go_upto_block 0 with (fail)
           go_cut [9] (fun v9 wc=>∃ (kq : Nat) (x9_15 : Int),v9 = .int .i64 x9_15 ∧ Aside0 (rebusref01_Next.j2 kq a0 a1 t190 t191 t192 x9_15 = some (r1,r2)) ∧ Aside0 (kq ≤ kj9) ∧ Drawn0 w wc)
           case first =>
            have H:=HC16.out
            clear HC16
            by_cases c17 : t190 = 2
            ·rw [if_pos c17] at H
             have c17b0 : (t190 == 2) = true:=beq_iff_eq.mpr c17
             have c17b1 : (t190 != 2) = false:=bne_eq_false_iff_eq.mpr c17
             clear c17
             (first | rw [c17b0] | (simp only [i64_w,i32_w];rw [c17b0]) | skip)
             have H':=Aside0.mk H
             clear H
             go_wp2
             go_meet
             case rel=>exact ⟨_,(Int.tmod (wrap64 (bt a0 a1)) 32),(by first | rfl | (simp;done) | (simp [*];done)),H',⟨by have:=HJ2.out;have:=HJ9.out;first | omega | exact Nat.le_refl _⟩,by repeat (first | exact Drawn0.refl _ | apply Drawn0.step)⟩
            ·rw [if_neg c17] at H
             have c17b0 : (t190 == 2) = false:=beq_eq_false_iff_ne.mpr c17
             have c17b1 : (t190 != 2) = true:=bne_iff_ne.mpr c17
             (first | rw [c17b0] | (simp only [i64_w,i32_w];rw [c17b0]) | skip)
             by_cases c18 : t190 = 3
             ·rw [if_pos c18] at H
              have c18b0 : (t190 == 3) = true:=beq_iff_eq.mpr c18
              have c18b1 : (t190 != 3) = false:=bne_eq_false_iff_eq.mpr c18
              clear c18
              have H':=Aside0.mk H
              clear H
              go_wp2
              go_meet
              case rel=>exact ⟨_,(Int.tmod (wrap64 (bt a0 a1)) 16),(by first | rfl | (simp;done) | (simp [*];done)),H',⟨by have:=HJ2.out;have:=HJ9.out;first | omega | exact Nat.le_refl _⟩,by repeat (first | exact Drawn0.refl _ | apply Drawn0.step)⟩
             ·rw [if_neg c18] at H
              have c18b0 : (t190 == 3) = false:=beq_eq_false_iff_ne.mpr c18
              have c18b1 : (t190 != 3) = true:=bne_iff_ne.mpr c18
              by_cases c19 : t190 = 4
              ·rw [if_pos c19] at H
               have c19b0 : (t190 == 4) = true:=beq_iff_eq.mpr c19
               have c19b1 : (t190 != 4) = false:=bne_eq_false_iff_eq.mpr c19
               clear c19
               have H':=Aside0.mk H
               clear H
               go_wp2
               go_meet
               case rel=>exact ⟨_,(Int.tmod (wrap64 (bt a0 a1)) 8),(by first | rfl | (simp;done) | (simp [*];done)),H',⟨by have:=HJ2.out;have:=HJ9.out;first | omega | exact Nat.le_refl _⟩,by repeat (first | exact Drawn0.refl _ | apply Drawn0.step)⟩
              ·rw [if_neg c19] at H
               have c19b0 : (t190 == 4) = false:=beq_eq_false_iff_ne.mpr c19
               have c19b1 : (t190 != 4) = true:=bne_iff_ne.mpr c19
               have H':=Aside0.mk H
               clear H
               go_wp2
               go_meet
               case rel=>exact ⟨_,(wrap64 (bt a0 a1)),(by first | rfl | (simp;done) | (simp [*];done)),H',⟨by have:=HJ2.out;have:=HJ9.out;first | omega | exact Nat.le_refl _⟩,by repeat (first | exact Drawn0.refl _ | apply Drawn0.step)⟩
           case rest =>
            clear HC16
            try clear c1
            try clear p1
            try clear q1
            try clear hx1
            try clear c2
            try clear p2
            try clear c4
            try clear c4b0
            try clear c5
            try clear c6
            try clear c6b0
            try clear p6
            try clear c7
            try clear c7b0
            try clear c8
            try clear p8
            try clear q8
            try clear hx8
            try clear c9
            try clear c11
            try clear c11b0
            try clear c11b1
            try clear c12
            try clear c13
            try clear c13b0
            try clear c14
            try clear c14b0
            try clear p15
            try clear q15
            try clear hx15
            try clear c17
            try clear c17b0
            try clear c17b1
            try clear c18
            try clear c18b0
            try clear c18b1
            try clear c19
            try clear c19b0
            try clear c19b1
            try clear p15
            try clear p2
            try clear p6
            try clear p8
            try clear q15
            try clear q8
            obtain ⟨kq,x9_15,rfl,HA,HJ15,⟨mc15,rfl⟩⟩:=hcut
            cases kq with
            | zero=>exact absurd HA.out (by simp [rebusref01_Next.j2])
            | succ kj15 =>
             have H:=HA.out
             clear HA
             simp only [rebusref01_Next.j2] at H
             have H':=Aside0.mk H
             clear H
             go_wp2
             go_loopg [9,10] kj15 (fun kq v9 v10 w'=>∃ (x9_4 : Int) (x10_4 : Int),v9 = .int .i64 x9_4 ∧ v10 = .int .i64 x10_4 ∧ Aside0 (rebusref01_Next.l0 kq a0 a1 t190 t191 t192 x9_4 x10_4 = some (r1,r2)) ∧ Aside0 (kq ≤ kj15) ∧ Drawn0 w w')
             case atStart=>exact ⟨(x9_15),(1),(by first | rfl | (simp;done) | (simp [*];done)),(by first | rfl | (simp;done) | (simp [*];done)),H',⟨Nat.le_refl _⟩,by repeat (first | exact Drawn0.refl _ | apply Drawn0.step)⟩
             case round =>
              clear H'
              try clear c1
              try clear p1
              try clear q1
              try clear hx1
              try clear c2
              try clear p2
              try clear c4
              try clear c4b0
              try clear c5
              try clear c6
              try clear c6b0
              try clear p6
              try clear c7
              try clear c7b0
              try clear c8
              try clear p8
              try clear q8
              try clear hx8
              try clear c9
              try clear c11
              try clear c11b0
              try clear c11b1
              try clear c12
              try clear c13
              try clear c13b0
              try clear c14
              try clear c14b0
              try clear c15
              try clear p15
              try clear q15
              try clear hx15
              try clear c17
              try clear c17b0
              try clear c17b1
              try clear c18
              try clear c18b0
              try clear c18b1
              try clear c19
              try clear c19b0
              try clear c19b1
              try clear p1
              try clear p15
              try clear p2
              try clear p6
              try clear p8
              try clear q1
              try clear q15
              try clear q8
              obtain ⟨x9_4,x10_4,rfl,rfl,HA,HK4,⟨m4,rfl⟩⟩:=hrel
              cases gk with
              | zero=>exact absurd HA.out (by simp [rebusref01_Next.l0])
              | succ k4 =>
               have H:=HA.out
               clear HA
               simp only [rebusref01_Next.l0] at H
               by_cases c20 : x10_4 < t190
               ·rw [if_pos c20] at H
                have c20b0 : decide (x10_4 < t190) = true:=decide_eq_true c20
                clear c20
                obtain ⟨ji21,hji21⟩ : ∃ j_ : Int,(wrap64 (a1 + x10_4)) = j_:=⟨_,rfl⟩
                replace H : (if 0 ≤ (ji21) then (if (ji21) < (a0.size : Int) then (if x10_4 = 1 then (if (bt a0 (ji21)) < t191 then (some (65533,1)) else (if (bt a0 (ji21)) > t192 then (some (65533,1)) else (if (bt a0 (ji21)) < 128 then (some (65533,1)) else (if (bt a0 (ji21)) > 191 then (some (65533,1)) else (rebusref01_Next.l0 k4 a0 a1 t190 t191 t192 (wrap64 ((wrap64 (x9_4 * 64)) + (Int.tmod (wrap64 (bt a0 (ji21))) 64))) (wrap64 (x10_4 + 1))))))) else (if (bt a0 (ji21)) < 128 then (some (65533,1)) else (if (bt a0 (ji21)) > 191 then (some (65533,1)) else (rebusref01_Next.l0 k4 a0 a1 t190 t191 t192 (wrap64 ((wrap64 (x9_4 * 64)) + (Int.tmod (wrap64 (bt a0 (ji21))) 64))) (wrap64 (x10_4 + 1)))))) else (none)) else (none)) = some (r1,r2):=by first | (rw [hji21] at H;exact H) | (simp only [hji21] at H ⊢;exact H)
                have hji21w : (IntKind.i64.wrap (a1 + x10_4)) = ji21:=(i64_w _).trans hji21
                by_cases c22 : 0 ≤ (ji21)
                ·rw [if_pos c22] at H
                 have c22b0 : decide (0 ≤ (ji21)) = true:=decide_eq_true c22
                 clear c22
                 by_cases c23 : (ji21) < (a0.size : Int)
                 ·rw [if_pos c23] at H
                  have c23b0 : decide ((ji21) < (a0.size : Int)) = true:=decide_eq_true c23
                  clear c23
                  by_cases c25 : x10_4 = 1
                  ·rw [if_pos c25] at H
                   have c25b0 : (x10_4 == 1) = true:=beq_iff_eq.mpr c25
                   have c25b1 : (x10_4 != 1) = false:=bne_eq_false_iff_eq.mpr c25
                   clear c25
                   by_cases c26 : (bt a0 (ji21)) < t191
                   ·rw [if_pos c26] at H
                    have c26b0 : decide ((bt a0 (ji21)) < t191) = true:=decide_eq_true c26
                    clear c26
                    simp only [Option.some.injEq,Prod.mk.injEq] at H
                    obtain ⟨rfl,rfl⟩:=H
                    have p24 : 0 ≤ ((ji21) : Int):=of_decide_eq_true (by first | (with_reducible assumption) | assumption)
                    have q24 : (ji21) < (a0.size : Int):=of_decide_eq_true (by first | (with_reducible assumption) | assumption)
                    have hx24:=bt_at a0 (ji21)
                    replace p24:=eq_true p24
                    replace q24:=eq_true q24
                    go_wp2
                    go_ret2
                    exact ⟨by first | rfl | (simp;done) | (simp only [← hji21] <;> (first | rfl | simp)) | (simp [*];done),by repeat (first | exact Drawn0.refl _ | apply Drawn0.step)⟩
                   ·rw [if_neg c26] at H
                    have c26b0 : decide ((bt a0 (ji21)) < t191) = false:=decide_eq_false c26
                    clear c26
                    by_cases c27 : (bt a0 (ji21)) > t192
                    ·rw [if_pos c27] at H
                     have c27b0 : decide (t192 < (bt a0 (ji21))) = true:=decide_eq_true c27
                     clear c27
                     simp only [Option.some.injEq,Prod.mk.injEq] at H
                     obtain ⟨rfl,rfl⟩:=H
                     have p24 : 0 ≤ ((ji21) : Int):=of_decide_eq_true (by first | (with_reducible assumption) | assumption)
                     have q24 : (ji21) < (a0.size : Int):=of_decide_eq_true (by first | (with_reducible assumption) | assumption)
                     have hx24:=bt_at a0 (ji21)
                     replace p24:=eq_true p24
                     replace q24:=eq_true q24
                     go_wp2
                     go_ret2
                     exact ⟨by first | rfl | (simp;done) | (simp only [← hji21] <;> (first | rfl | simp)) | (simp [*];done),by repeat (first | exact Drawn0.refl _ | apply Drawn0.step)⟩
                    ·rw [if_neg c27] at H
                     have c27b0 : decide (t192 < (bt a0 (ji21))) = false:=decide_eq_false c27
                     clear c27
                     by_cases c28 : (bt a0 (ji21)) < 128
                     ·rw [if_pos c28] at H
                      have c28b0 : decide ((bt a0 (ji21)) < 128) = true:=decide_eq_true c28
                      clear c28
                      simp only [Option.some.injEq,Prod.mk.injEq] at H
                      obtain ⟨rfl,rfl⟩:=H
                      have p24 : 0 ≤ ((ji21) : Int):=of_decide_eq_true (by first | (with_reducible assumption) | assumption)
                      have q24 : (ji21) < (a0.size : Int):=of_decide_eq_true (by first | (with_reducible assumption) | assumption)
                      have hx24:=bt_at a0 (ji21)
                      replace p24:=eq_true p24
                      replace q24:=eq_true q24
                      go_wp2
                      go_ret2
                      exact ⟨by first | rfl | (simp;done) | (simp only [← hji21] <;> (first | rfl | simp)) | (simp [*];done),by repeat (first | exact Drawn0.refl _ | apply Drawn0.step)⟩
                     ·rw [if_neg c28] at H
                      have c28b0 : decide ((bt a0 (ji21)) < 128) = false:=decide_eq_false c28
                      clear c28
                      by_cases c29 : (bt a0 (ji21)) > 191
                      ·rw [if_pos c29] at H
                       have c29b0 : decide (191 < (bt a0 (ji21))) = true:=decide_eq_true c29
                       clear c29
                       simp only [Option.some.injEq,Prod.mk.injEq] at H
                       obtain ⟨rfl,rfl⟩:=H
                       have p24 : 0 ≤ ((ji21) : Int):=of_decide_eq_true (by first | (with_reducible assumption) | assumption)
                       have q24 : (ji21) < (a0.size : Int):=of_decide_eq_true (by first | (with_reducible assumption) | assumption)
                       have hx24:=bt_at a0 (ji21)
                       replace p24:=eq_true p24
                       replace q24:=eq_true q24
                       go_wp2
                       go_ret2
                       exact ⟨by first | rfl | (simp;done) | (simp only [← hji21] <;> (first | rfl | simp)) | (simp [*];done),by repeat (first | exact Drawn0.refl _ | apply Drawn0.step)⟩
                      ·rw [if_neg c29] at H
                       have c29b0 : decide (191 < (bt a0 (ji21))) = false:=decide_eq_false c29
                       clear c29
                       have H':=Aside0.mk H
                       clear H
                       have p24 : 0 ≤ ((ji21) : Int):=of_decide_eq_true (by first | (with_reducible assumption) | assumption)
                       have q24 : (ji21) < (a0.size : Int):=of_decide_eq_true (by first | (with_reducible assumption) | assumption)
                       have hx24:=bt_at a0 (ji21)
                       replace p24:=eq_true p24
                       replace q24:=eq_true q24
                       go_wp2
                       go_roundg k4
                       case measure=>have:=HJ2.out;have:=HJ9.out;have:=HJ15.out;have:=HK4.out;omega
                       case rel=>exact ⟨(wrap64 ((wrap64 (x9_4 * 64)) + (Int.tmod (wrap64 (bt a0 (ji21))) 64))),(wrap64 (x10_4 + 1)),(by first | rfl | (simp;done) | (simp only [← hji21] <;> (first | rfl | simp)) | (simp [*];done)),(by first | rfl | (simp;done) | (simp [*];done)),H',⟨by have:=HJ2.out;have:=HJ9.out;have:=HJ15.out;have:=HK4.out;omega⟩,by repeat (first | exact Drawn0.refl _ | apply Drawn0.step)⟩
                  ·rw [if_neg c25] at H
                   have c25b0 : (x10_4 == 1) = false:=beq_eq_false_iff_ne.mpr c25
                   have c25b1 : (x10_4 != 1) = true:=bne_iff_ne.mpr c25
                   by_cases c30 : (bt a0 (ji21)) < 128
                   ·rw [if_pos c30] at H
                    have c30b0 : decide ((bt a0 (ji21)) < 128) = true:=decide_eq_true c30
                    clear c30
                    simp only [Option.some.injEq,Prod.mk.injEq] at H
                    obtain ⟨rfl,rfl⟩:=H
                    have p24 : 0 ≤ ((ji21) : Int):=of_decide_eq_true (by first | (with_reducible assumption) | assumption)
                    have q24 : (ji21) < (a0.size : Int):=of_decide_eq_true (by first | (with_reducible assumption) | assumption)
                    have hx24:=bt_at a0 (ji21)
                    replace p24:=eq_true p24
                    replace q24:=eq_true q24
                    go_wp2
                    go_ret2
                    exact ⟨by first | rfl | (simp;done) | (simp only [← hji21] <;> (first | rfl | simp)) | (simp [*];done),by repeat (first | exact Drawn0.refl _ | apply Drawn0.step)⟩
                   ·rw [if_neg c30] at H
                    have c30b0 : decide ((bt a0 (ji21)) < 128) = false:=decide_eq_false c30
                    clear c30
                    by_cases c31 : (bt a0 (ji21)) > 191
                    ·rw [if_pos c31] at H
                     have c31b0 : decide (191 < (bt a0 (ji21))) = true:=decide_eq_true c31
                     clear c31
                     simp only [Option.some.injEq,Prod.mk.injEq] at H
                     obtain ⟨rfl,rfl⟩:=H
                     have p24 : 0 ≤ ((ji21) : Int):=of_decide_eq_true (by first | (with_reducible assumption) | assumption)
                     have q24 : (ji21) < (a0.size : Int):=of_decide_eq_true (by first | (with_reducible assumption) | assumption)
                     have hx24:=bt_at a0 (ji21)
                     replace p24:=eq_true p24
                     replace q24:=eq_true q24
                     go_wp2
                     go_ret2
                     exact ⟨by first | rfl | (simp;done) | (simp only [← hji21] <;> (first | rfl | simp)) | (simp [*];done),by repeat (first | exact Drawn0.refl _ | apply Drawn0.step)⟩
                    ·rw [if_neg c31] at H
                     have c31b0 : decide (191 < (bt a0 (ji21))) = false:=decide_eq_false c31
                     clear c31
                     have H':=Aside0.mk H
                     clear H
                     have p24 : 0 ≤ ((ji21) : Int):=of_decide_eq_true (by first | (with_reducible assumption) | assumption)
                     have q24 : (ji21) < (a0.size : Int):=of_decide_eq_true (by first | (with_reducible assumption) | assumption)
                     have hx24:=bt_at a0 (ji21)
                     replace p24:=eq_true p24
                     replace q24:=eq_true q24
                     go_wp2
                     go_roundg k4
                     case measure=>have:=HJ2.out;have:=HJ9.out;have:=HJ15.out;have:=HK4.out;omega
                     case rel=>exact ⟨(wrap64 ((wrap64 (x9_4 * 64)) + (Int.tmod (wrap64 (bt a0 (ji21))) 64))),(wrap64 (x10_4 + 1)),(by first | rfl | (simp;done) | (simp only [← hji21] <;> (first | rfl | simp)) | (simp [*];done)),(by first | rfl | (simp;done) | (simp [*];done)),H',⟨by have:=HJ2.out;have:=HJ9.out;have:=HJ15.out;have:=HK4.out;omega⟩,by repeat (first | exact Drawn0.refl _ | apply Drawn0.step)⟩
                 ·rw [if_neg c23] at H
                  exact absurd H (by simp)
                ·rw [if_neg c22] at H
                 exact absurd H (by simp)
               ·rw [if_neg c20] at H
                have c20b0 : decide (x10_4 < t190) = false:=decide_eq_false c20
                clear c20
                simp only [Option.some.injEq,Prod.mk.injEq] at H
                obtain ⟨rfl,rfl⟩:=H
                go_wp2
                go_ret2
                exact ⟨by first | rfl | (simp;done) | (simp [*];done),by repeat (first | exact Drawn0.refl _ | apply Drawn0.step)⟩
          ·rw [if_neg c14] at H
           exact absurd H (by simp)
         ·rw [if_neg c13] at H
          exact absurd H (by simp)
     ·rw [if_neg c7] at H
      exact absurd H (by simp)
    ·rw [if_neg c6] at H
     exact absurd H (by simp)
def rebusref01_Runes.l0 : Nat → ByteArray → List Int → Int → Option (List Int)
 | 0,_,_,_=>none
 | k + 1,x0,x3,x4=>if x4 < (x0.size : Int) then ((rebusref01_Next.f k x0 x4).bind fun bt193=>(if x3.length < 35184372088832 then (rebusref01_Runes.l0 k x0 (x3 ++ [bt193.1]) (wrap64 (x4 + bt193.2))) else (none))) else (some x3)
def rebusref01_Runes.f (k : Nat) (a0 : ByteArray) : Option (List Int):=rebusref01_Runes.l0 k a0 ([] : List Int) 0
set_option maxHeartbeats 8000000 in
set_option maxRecDepth 100000 in
theorem rebusref01_Runes.calls (k : Nat) (a0 : ByteArray) (r : List Int) (w : World) (h : rebusref01_Runes.f k a0 = some r) :
  Calls Tryz.prog 83 #[.string a0] w fun e w'=>∃ v0_ : Value,e = .returned (v0_) ∧ Kd.R (Kd.int .i32) 21 w' w.heap.size (fun _=>True) v0_ r ∧ Below w.heap.size w w':=by
 have HB:=Aside0.mk (Below.refl w.heap.size w)
 have H : (rebusref01_Runes.l0 k a0 ([] : List Int) 0) = some r:=h
 clear h
 have H':=Aside0.mk H
 clear H
 go_enter Tryz.func83,Tryz.ntmps83
 go_wp2
 go_loopg [3,4] k (fun kq v3 v4 w'=>∃ (x3_1 : List Int) (x4_1 : Int),v4 = .int .i64 x4_1 ∧ Aside0 (rebusref01_Runes.l0 kq a0 x3_1 x4_1 = some r) ∧ Aside0 (kq ≤ k) ∧ Aside0 (Kd.R (Kd.int .i32) 21 w' w.heap.size (fun _=>True) v3 x3_1) ∧ Aside0 (Below w.heap.size w w'))
 case atStart=>exact ⟨(([] : List Int)),(0),(by first | rfl | (simp;done) | (simp [*];done)),H',⟨Nat.le_refl _⟩,⟨by first | exact Kd.R_nil _ _ _ _ _ | exact Kd.N_nil _ _ _ _ _ | exact Kd.V_nil _ _ _ _ _ | exact Kd.Q_nil _ _ _ _ _ | exact Kd.S_nil _ _ _ _ _⟩,⟨by repeat (first | (with_reducible first | exact HB.out | apply below_alloc | apply pw_below_drewN | apply below_drew1) | exact HB.out)⟩⟩
 case round =>
  clear H'
  obtain ⟨x3_1,x4_1,rfl,HA,HK1,HO_3,HB⟩:=hrel
  cases gk with
  | zero=>exact absurd HA.out (by simp [rebusref01_Runes.l0])
  | succ k1 =>
   have H:=HA.out
   clear HA
   simp only [rebusref01_Runes.l0] at H
   by_cases c2 : x4_1 < (a0.size : Int)
   ·rw [if_pos c2] at H
    have c2b0 : decide (x4_1 < (a0.size : Int)) = true:=decide_eq_true c2
    clear c2
    replace H:=Option.bind_eq_some_iff.mp H
    obtain ⟨⟨t193,t194⟩,A30,H⟩:=H
    replace H : (if x3_1.length < 35184372088832 then (rebusref01_Runes.l0 k1 a0 (x3_1 ++ [t193]) (wrap64 (x4_1 + t194))) else (none)) = some r:=H
    have A3:=Aside0.mk A30
    clear A30
    by_cases c4 : x3_1.length < 35184372088832
    ·rw [if_pos c4] at H
     have LMc4:=Aside0.mk c4
     clear c4
     obtain ⟨y195,hy195⟩ : ∃ y_ : List Int,y_ = (x3_1 ++ [t193]):=⟨_,rfl⟩
     replace H : (rebusref01_Runes.l0 k1 a0 y195 (wrap64 (x4_1 + t194))) = some r:=by first | (rw [hy195];with_reducible exact H) | (have H2_:=(Option.bind_some _ _).symm.trans H;rw [hy195];with_reducible exact H2_) | (have H2_:=(Option.bind_some _ _).symm.trans H;with_reducible exact H2_) | with_reducible exact H | (rw [hy195];exact H) | exact H
     have Ny195:=Aside0.mk hy195
     clear hy195
     have H':=Aside0.mk H
     clear H
     go_wp2_with (first | ((with_reducible refine gate_callee (f:=88) rfl ?_);refine goesL_ (some 14) rfl rfl Tryz.func88 (by kernel_rfl) rfl #[.string a0,.int .i64 x4_1] rfl (by (try simp only [List.map_toArray,List.map_cons,List.map_nil]);first | done | rfl | (simp only [List.length_drop,List.length_take];rfl)) ?_;(with_reducible refine (rebusref01_Next.calls k1 a0 x4_1 t193 t194 _ A3.out).mono ?_);rintro e w' ⟨rfl,⟨nd,rfl⟩⟩;refine ⟨_,rfl,?_⟩) | ((with_reducible refine gate_builtin (b:=.append) (xs:=#[.tmp 17,.tmp 19]) rfl ?_);at_builtin;refine Kd.R_append (Kd.int .i32) (w0:=w) w.heap.size rfl (.tmp 17) (.tmp 19) 106 21 (.int .i32 0) 4 rfl Tryz.underlying106 info21 rfl (by decide) (by omega) u3 x3_1 t193 [.int .i32 t193] (fun _=>True) (fun _=>False) rfl rfl ?aP (fun _ hk=>hk.elim) ?aF ?aO ?aB ?aS ?aL ?_;(case aP=>exact rfl);(case aB=>exact (by repeat (first | (with_reducible first | exact HB.out | apply below_alloc | apply pw_below_drewN | apply below_drew1) | exact HB.out)));(case aF=>exact (fun _ _=>trivial));(case aO=>exact (by (with_reducible repeat (first | apply Kd.R_alloc | apply Kd.R_drewN | apply Kd.R_drew));exact HO_3.out));(case aS=>exact (below_size (by repeat (first | (with_reducible first | exact HB.out | apply below_alloc | apply pw_below_drewN | apply below_drew1) | exact HB.out))));(case aL=>have:=LMc4.out;omega);intro v196 w5 ho hb hg hat;rw [← Ny195.out] at ho;have n0_:=Aside0.mk (hb);have n1_:=Aside0.mk (ho);clear HB;clear HO_3;have HB:=n0_;have HO197:=n1_;clear n0_ n1_;clear ho hb hg hat))
     go_roundg k1
     case measure=>have:=HK1.out;omega
     case rel=>exact ⟨(y195),(wrap64 (x4_1 + t194)),(by first | rfl | (simp;done) | (simp [*];done)),H',⟨by have:=HK1.out;omega⟩,⟨by (with_reducible repeat (first | apply Kd.R_alloc | apply Kd.R_drewN | apply Kd.R_drew));exact HO197.out⟩,⟨by repeat (first | (with_reducible first | exact HB.out | apply below_alloc | apply pw_below_drewN | apply below_drew1) | exact HB.out)⟩⟩
    ·rw [if_neg c4] at H
     exact absurd H (by simp)
   ·rw [if_neg c2] at H
    have c2b0 : decide (x4_1 < (a0.size : Int)) = false:=decide_eq_false c2
    clear c2
    obtain rfl:=Option.some.inj H
    go_wp2
    go_ret
    exact ⟨_,by first | rfl | (simp [errW_none,errW_some] <;> rfl) | (simp [*,errW_none,errW_some] <;> rfl) | (exfalso;contradiction),by (with_reducible repeat (first | apply Kd.R_alloc | apply Kd.R_drewN | apply Kd.R_drew));exact HO_3.out,by repeat (first | (with_reducible first | exact HB.out | apply below_alloc | apply pw_below_drewN | apply below_drew1) | exact HB.out)⟩
def rebusref01_Valid.l0 : Nat → ByteArray → Int → Option (Bool)
 | 0,_,_=>none
 | k + 1,x0,x3=>if x3 < (x0.size : Int) then ((rebusref01_Next.f k x0 x3).bind fun bt198=>(if bt198.1 = 65533 then (if bt198.2 = 1 then (some false) else (rebusref01_Valid.l0 k x0 (wrap64 (x3 + bt198.2)))) else (rebusref01_Valid.l0 k x0 (wrap64 (x3 + bt198.2))))) else (some true)
def rebusref01_Valid.f (k : Nat) (a0 : ByteArray) : Option (Bool):=rebusref01_Valid.l0 k a0 0
set_option maxHeartbeats 8000000 in
set_option maxRecDepth 100000 in
theorem rebusref01_Valid.calls (k : Nat) (a0 : ByteArray) (r : Bool) (w : World) (h : rebusref01_Valid.f k a0 = some r) :
  Calls Tryz.prog 86 #[.string a0] w fun e w'=>e = .returned (.bool r) ∧ Drawn0 w w':=by
 have H : (rebusref01_Valid.l0 k a0 0) = some r:=h
 clear h
 have H':=Aside0.mk H
 clear H
 go_enter Tryz.func86,Tryz.ntmps86
 go_wp2
 go_loopg [3] k (fun kq v3 w'=>∃ (x3_1 : Int),v3 = .int .i64 x3_1 ∧ Aside0 (rebusref01_Valid.l0 kq a0 x3_1 = some r) ∧ Aside0 (kq ≤ k) ∧ Drawn0 w w')
 case atStart=>exact ⟨(0),(by first | rfl | (simp;done) | (simp [*];done)),H',⟨Nat.le_refl _⟩,by repeat (first | exact Drawn0.refl _ | apply Drawn0.step)⟩
 case round =>
  clear H'
  obtain ⟨x3_1,rfl,HA,HK1,⟨m1,rfl⟩⟩:=hrel
  cases gk with
  | zero=>exact absurd HA.out (by simp [rebusref01_Valid.l0])
  | succ k1 =>
   have H:=HA.out
   clear HA
   simp only [rebusref01_Valid.l0] at H
   by_cases c2 : x3_1 < (a0.size : Int)
   ·rw [if_pos c2] at H
    have c2b0 : decide (x3_1 < (a0.size : Int)) = true:=decide_eq_true c2
    clear c2
    replace H:=Option.bind_eq_some_iff.mp H
    obtain ⟨⟨t198,t199⟩,A30,H⟩:=H
    replace H : (if t198 = 65533 then (if t199 = 1 then (some false) else (rebusref01_Valid.l0 k1 a0 (wrap64 (x3_1 + t199)))) else (rebusref01_Valid.l0 k1 a0 (wrap64 (x3_1 + t199)))) = some r:=H
    have A3:=Aside0.mk A30
    clear A30
    by_cases c4 : t198 = 65533
    ·rw [if_pos c4] at H
     have c4b0 : (t198 == 65533) = true:=beq_iff_eq.mpr c4
     have c4b1 : (t198 != 65533) = false:=bne_eq_false_iff_eq.mpr c4
     clear c4
     by_cases c5 : t199 = 1
     ·rw [if_pos c5] at H
      have c5b0 : (t199 == 1) = true:=beq_iff_eq.mpr c5
      have c5b1 : (t199 != 1) = false:=bne_eq_false_iff_eq.mpr c5
      clear c5
      obtain rfl:=Option.some.inj H
      go_wp2_with (first | ((with_reducible refine gate_callee (f:=88) rfl ?_);refine goesL_ (some 13) rfl rfl Tryz.func88 (by kernel_rfl) rfl #[.string a0,.int .i64 x3_1] rfl (by (try simp only [List.map_toArray,List.map_cons,List.map_nil]);first | done | rfl | (simp only [List.length_drop,List.length_take];rfl)) ?_;(with_reducible refine (rebusref01_Next.calls k1 a0 x3_1 t198 t199 _ A3.out).mono ?_);rintro e w' ⟨rfl,⟨nd,rfl⟩⟩;refine ⟨_,rfl,?_⟩))
      go_ret
      exact ⟨by first | rfl | (simp;done) | (simp [*];done),by repeat (first | exact Drawn0.refl _ | apply Drawn0.step)⟩
     ·rw [if_neg c5] at H
      have c5b0 : (t199 == 1) = false:=beq_eq_false_iff_ne.mpr c5
      have c5b1 : (t199 != 1) = true:=bne_iff_ne.mpr c5
      have H':=Aside0.mk H
      clear H
      go_wp2_with (first | ((with_reducible refine gate_callee (f:=88) rfl ?_);refine goesL_ (some 13) rfl rfl Tryz.func88 (by kernel_rfl) rfl #[.string a0,.int .i64 x3_1] rfl (by (try simp only [List.map_toArray,List.map_cons,List.map_nil]);first | done | rfl | (simp only [List.length_drop,List.length_take];rfl)) ?_;(with_reducible refine (rebusref01_Next.calls k1 a0 x3_1 t198 t199 _ A3.out).mono ?_);rintro e w' ⟨rfl,⟨nd,rfl⟩⟩;refine ⟨_,rfl,?_⟩))
      go_roundg k1
      case measure=>have:=HK1.out;omega
      case rel=>exact ⟨(wrap64 (x3_1 + t199)),(by first | rfl | (simp;done) | (simp [*];done)),H',⟨by have:=HK1.out;omega⟩,by repeat (first | exact Drawn0.refl _ | apply Drawn0.step)⟩
    ·rw [if_neg c4] at H
     have c4b0 : (t198 == 65533) = false:=beq_eq_false_iff_ne.mpr c4
     have c4b1 : (t198 != 65533) = true:=bne_iff_ne.mpr c4
     have H':=Aside0.mk H
     clear H
     go_wp2_with (first | ((with_reducible refine gate_callee (f:=88) rfl ?_);refine goesL_ (some 13) rfl rfl Tryz.func88 (by kernel_rfl) rfl #[.string a0,.int .i64 x3_1] rfl (by (try simp only [List.map_toArray,List.map_cons,List.map_nil]);first | done | rfl | (simp only [List.length_drop,List.length_take];rfl)) ?_;(with_reducible refine (rebusref01_Next.calls k1 a0 x3_1 t198 t199 _ A3.out).mono ?_);rintro e w' ⟨rfl,⟨nd,rfl⟩⟩;refine ⟨_,rfl,?_⟩))
     go_roundg k1
     case measure=>have:=HK1.out;omega
     case rel=>exact ⟨(wrap64 (x3_1 + t199)),(by first | rfl | (simp;done) | (simp [*];done)),H',⟨by have:=HK1.out;omega⟩,by repeat (first | exact Drawn0.refl _ | apply Drawn0.step)⟩
   ·rw [if_neg c2] at H
    have c2b0 : decide (x3_1 < (a0.size : Int)) = false:=decide_eq_false c2
    clear c2
    obtain rfl:=Option.some.inj H
    go_wp2
    go_ret
    exact ⟨by first | rfl | (simp;done) | (simp [*];done),by repeat (first | exact Drawn0.refl _ | apply Drawn0.step)⟩
end Go.Proofs.YtpfbcepgmigeiaaGreatDoor.Q
end
section
namespace Go.Proofs.YtpfbcepgmigeiaaGreatDoor.Q
open Go.RowKit Go.Proofs.YtpfbcepgmigeiaaGreatDoorW.PrintWords Go.Proofs.YtpfbcepgmigeiaaGreatDoorW.PrintLast Go.Proofs.YtpfbcepgmigeiaaGreatDoorW.PrintMore
set_option linter.unusedVariables false
set_option linter.unusedSimpArgs false
open Go.Proofs.YtpfbcepgmigeiaaGreatDoorS
def rowOf (b : Int) : Int × Int × Int :=
  if b < 128 then (1,0,0) else if 194 ≤ b ∧ b ≤ 223 then (2,128,191) else if b = 224 then (3,160,191) else if b = 237 then (3,128,159) else if 225 ≤ b ∧ b ≤ 239 then (3,128,191) else if b = 240 then (4,144,191) else if 241 ≤ b ∧ b ≤ 243 then (4,128,191) else if b = 244 then (4,128,143) else (0,0,0)
theorem row_eq (k : Nat) (b : Int) : rebusref01_row.f (k + 3) b = some (rowOf b):=by
  unfold rebusref01_row.f rowOf
  simp only [rebusref01_row.j0,rebusref01_row.j1,rebusref01_row.j2,decide_eq_true_eq]
  simp only [Bool.false_eq_true,if_false,ge_iff_le]
  rcases (by omega : b < 128 ∨ (128 ≤ b ∧ b < 194) ∨ (194 ≤ b ∧ b ≤ 223) ∨ b = 224 ∨ (225 ≤ b ∧ b < 237) ∨ b = 237 ∨ (238 ≤ b ∧ b ≤ 239) ∨ b = 240 ∨ (241 ≤ b ∧ b ≤ 243) ∨ b = 244 ∨ 245 ≤ b) with h | h | h | h | h | h | h | h | h | h | h
  all_goals (repeat (first | rw [if_pos (by omega)] | rw [if_neg (by omega)]))
theorem w64s {x : Int} (h0 : 0 ≤ x) (h1 : x < 9223372036854775807) : wrap64 x = x:=by unfold wrap64;omega
theorem next_first (k : Nat) (s : ByteArray) (i w lo hi n : Int) (hw : 1 < w) (hi0 : 0 ≤ i) (hb : i + 1 < s.size) (hz : s.size ≤ 140737488355328) (hn : 0 ≤ n ∧ n ≤ 255) :
    rebusref01_Next.l0 (k + 1) s i w lo hi n 1 = if bt s (i + 1) < lo ∨ hi < bt s (i + 1) ∨ bt s (i + 1) < 128 ∨ 191 < bt s (i + 1) then some (65533,1) else rebusref01_Next.l0 k s i w lo hi (n * 64 + bt s (i + 1) % 64) 2:=by
  obtain ⟨hb0,hb1⟩:=bt_range s (i + 1)
  simp only [rebusref01_Next.l0]
  rw [w64s (x:=i + 1) (by omega) (by omega),if_pos hw,if_pos (by omega),if_pos hb,if_pos trivial,w64s (x:=bt s (i + 1)) hb0 (by omega),Int.tmod_eq_emod_of_nonneg hb0,w64s (x:=n * 64) (by omega) (by omega),w64s (x:=n * 64 + bt s (i + 1) % 64) (by omega) (by omega),w64s (x:=1 + 1) (by omega) (by omega)]
  by_cases c1 : bt s (i + 1) < lo
  · rw [if_pos c1,if_pos (.inl c1)]
  · rw [if_neg c1]
    by_cases c2 : bt s (i + 1) > hi
    · rw [if_pos c2,if_pos (.inr (.inl c2))]
    · rw [if_neg c2]
      by_cases c3 : bt s (i + 1) < 128
      · rw [if_pos c3,if_pos (.inr (.inr (.inl c3)))]
      · rw [if_neg c3]
        by_cases c4 : bt s (i + 1) > 191
        · rw [if_pos c4,if_pos (.inr (.inr (.inr c4)))]
        · rw [if_neg c4,if_neg (by omega)]
          rfl
theorem next_more (k : Nat) (s : ByteArray) (i w lo hi n j : Int) (hj : 2 ≤ j) (hw : j < w) (hi0 : 0 ≤ i) (hb : i + j < s.size) (hz : s.size ≤ 140737488355328) (hn : 0 ≤ n ∧ n ≤ 16777216) (hj2 : j ≤ 10) :
    rebusref01_Next.l0 (k + 1) s i w lo hi n j = if bt s (i + j) < 128 ∨ 191 < bt s (i + j) then some (65533,1) else rebusref01_Next.l0 k s i w lo hi (n * 64 + bt s (i + j) % 64) (j + 1):=by
  obtain ⟨hb0,hb1⟩:=bt_range s (i + j)
  simp only [rebusref01_Next.l0]
  rw [w64s (x:=i + j) (by omega) (by omega),if_pos hw,if_pos (by omega),if_pos hb,if_neg (by omega : ¬ j = 1),w64s (x:=bt s (i + j)) hb0 (by omega),Int.tmod_eq_emod_of_nonneg hb0,w64s (x:=n * 64) (by omega) (by omega),w64s (x:=n * 64 + bt s (i + j) % 64) (by omega) (by omega),w64s (x:=j + 1) (by omega) (by omega)]
  by_cases c3 : bt s (i + j) < 128
  · rw [if_pos c3,if_pos (.inl c3)]
  · rw [if_neg c3]
    by_cases c4 : bt s (i + j) > 191
    · rw [if_pos c4,if_pos (.inr c4)]
    · rw [if_neg c4,if_neg (by omega)]
theorem next_end (k : Nat) (s : ByteArray) (i w lo hi n : Int) (hn : 0 ≤ n ∧ n ≤ 2147483647) : rebusref01_Next.l0 (k + 1) s i w lo hi n w = some (n,w):=by
  simp only [rebusref01_Next.l0]
  rw [if_neg (by omega)]
  have : wrap32 n = n:=by unfold wrap32;omega
  rw [this]
theorem bt_get (s : ByteArray) (i j : Nat) : bt s ((i : Int) + (j : Int)) = ((s.get! (i + j)).toNat : Int):=by
  unfold bt
  have e : ((i : Int) + (j : Int)).toNat = i + j:=by omega
  rw [e]
  by_cases h : i + j < s.size
  · rw [dif_pos h]
    have : s.get! (i + j) = s[i + j]:=by cases s with | mk d=>exact getElem!_pos d (i + j) h
    rw [this]
  · rw [dif_neg h]
    have : s.get! (i + j) = 0:=by cases s with | mk d=>exact getElem!_neg d (i + j) h
    rw [this]
    rfl
theorem tmod_nat {x n : Int} (h : 0 ≤ x) (h2 : x ≤ 255) : Int.tmod (wrap64 x) n = x % n:=by rw [w64s h (by omega),Int.tmod_eq_emod_of_nonneg h]
section
variable {s : ByteArray} {i m : Nat} {y0 y1 y2 y3 lo hi : Int} (hm : s.size - i = m) (hi' : i < s.size) (hz : s.size ≤ 140737488355328) (h0 : bt s (i : Int) = y0) (h1 : bt s ((i : Int) + 1) = y1) (h2 : bt s ((i : Int) + 2) = y2) (h3 : bt s ((i : Int) + 3) = y3)
include hm hi' hz h0 h1 h2 h3
omit h2 h3 in
theorem next_w2 (k : Nat) : rebusref01_Next.j1 (k + 9) s i 2 lo hi (decide ((m : Int) < 2)) = some (if m < 2 ∨ y1 < lo ∨ hi < y1 ∨ y1 < 128 ∨ 191 < y1 then (65533,1) else (y0 % 32 * 64 + y1 % 64,2)):=by
  have r0:=bt_range s (i : Int)
  have r1:=bt_range s ((i : Int) + 1)
  rw [h0] at r0
  rw [h1] at r1
  simp only [rebusref01_Next.j1,decide_eq_true_eq]
  by_cases c0 : (m : Int) < 2
  · rw [if_pos c0,if_pos (.inl (by omega))]
  · rw [if_neg c0,if_pos (by omega),if_pos (by omega),if_pos trivial,h0,tmod_nat r0.1 r0.2]
    simp only [rebusref01_Next.j2]
    rw [next_first _ s i 2 lo hi (y0 % 32) (by omega) (by omega) (by omega) hz (by omega),h1]
    by_cases c1 : y1 < lo ∨ hi < y1 ∨ y1 < 128 ∨ 191 < y1
    · rw [if_pos c1,if_pos (.inr c1)]
    · rw [if_neg c1,if_neg (fun h=>c1 (h.resolve_left (by omega))),next_end _ s i 2 lo hi _ (by omega)]
omit h3 in
theorem next_w3 (k : Nat) : rebusref01_Next.j1 (k + 9) s i 3 lo hi (decide ((m : Int) < 3)) = some (if m < 3 ∨ (y1 < lo ∨ hi < y1 ∨ y1 < 128 ∨ 191 < y1) ∨ (y2 < 128 ∨ 191 < y2) then (65533,1) else ((y0 % 16 * 64 + y1 % 64) * 64 + y2 % 64,3)):=by
  have r0:=bt_range s (i : Int)
  have r1:=bt_range s ((i : Int) + 1)
  have r2:=bt_range s ((i : Int) + 2)
  rw [h0] at r0
  rw [h1] at r1
  rw [h2] at r2
  simp only [rebusref01_Next.j1,decide_eq_true_eq]
  by_cases c0 : (m : Int) < 3
  · rw [if_pos c0,if_pos (.inl (by omega))]
  · rw [if_neg c0,if_pos (by omega),if_pos (by omega),if_neg (by decide),if_pos trivial,h0,tmod_nat r0.1 r0.2]
    simp only [rebusref01_Next.j2]
    rw [next_first _ s i 3 lo hi (y0 % 16) (by omega) (by omega) (by omega) hz (by omega),h1]
    by_cases c1 : y1 < lo ∨ hi < y1 ∨ y1 < 128 ∨ 191 < y1
    · rw [if_pos c1,if_pos (.inr (.inl c1))]
    · rw [if_neg c1,next_more _ s i 3 lo hi _ 2 (by omega) (by omega) (by omega) (by omega) hz (by omega) (by omega),h2]
      by_cases c2 : y2 < 128 ∨ 191 < y2
      · rw [if_pos c2,if_pos (.inr (.inr c2))]
      · rw [if_neg c2,if_neg (fun h=>(h.resolve_left (by omega)).elim c1 c2)]
        exact next_end _ s i 3 lo hi _ (by omega)
theorem next_w4 (k : Nat) : rebusref01_Next.j1 (k + 9) s i 4 lo hi (decide ((m : Int) < 4)) = some (if m < 4 ∨ (y1 < lo ∨ hi < y1 ∨ y1 < 128 ∨ 191 < y1) ∨ (y2 < 128 ∨ 191 < y2) ∨ (y3 < 128 ∨ 191 < y3) then (65533,1) else (((y0 % 8 * 64 + y1 % 64) * 64 + y2 % 64) * 64 + y3 % 64,4)):=by
  have r0:=bt_range s (i : Int)
  have r1:=bt_range s ((i : Int) + 1)
  have r2:=bt_range s ((i : Int) + 2)
  have r3:=bt_range s ((i : Int) + 3)
  rw [h0] at r0
  rw [h1] at r1
  rw [h2] at r2
  rw [h3] at r3
  simp only [rebusref01_Next.j1,decide_eq_true_eq]
  by_cases c0 : (m : Int) < 4
  · rw [if_pos c0,if_pos (.inl (by omega))]
  · rw [if_neg c0,if_pos (by omega),if_pos (by omega),if_neg (by decide),if_neg (by decide),if_pos trivial,h0,tmod_nat r0.1 r0.2]
    simp only [rebusref01_Next.j2]
    rw [next_first _ s i 4 lo hi (y0 % 8) (by omega) (by omega) (by omega) hz (by omega),h1]
    by_cases c1 : y1 < lo ∨ hi < y1 ∨ y1 < 128 ∨ 191 < y1
    · rw [if_pos c1,if_pos (.inr (.inl c1))]
    · rw [if_neg c1,next_more _ s i 4 lo hi _ 2 (by omega) (by omega) (by omega) (by omega) hz (by omega) (by omega),h2]
      by_cases c2 : y2 < 128 ∨ 191 < y2
      · rw [if_pos c2,if_pos (.inr (.inr (.inl c2)))]
      · rw [if_neg c2]
        have e3 : (2 : Int) + 1 = 3:=rfl
        rw [e3,next_more _ s i 4 lo hi _ 3 (by omega) (by omega) (by omega) (by omega) hz (by omega) (by omega),h3]
        by_cases c3 : y3 < 128 ∨ 191 < y3
        · rw [if_pos c3,if_pos (.inr (.inr (.inr c3)))]
        · rw [if_neg c3,if_neg (fun h=>(h.resolve_left (by omega)).elim c1 (fun h=>h.elim c2 c3))]
          exact next_end _ s i 4 lo hi _ (by omega)
end
theorem next_eq (k : Nat) (s : ByteArray) (i : Nat) (hi : i < s.size) (hz : s.size ≤ 140737488355328) : rebusref01_Next.f (k + 10) s (i : Int) = some (((Utf8.decode s i).1 : Int),((Utf8.decode s i).2 : Int)):=by
  rw [Lib.decode_at]
  have g0:=bt_get s i 0
  have g1:=bt_get s i 1
  have g2:=bt_get s i 2
  have g3:=bt_get s i 3
  generalize s.get! (i + 1) = x1 at g1 ⊢
  generalize s.get! (i + 2) = x2 at g2 ⊢
  generalize s.get! (i + 3) = x3 at g3 ⊢
  rw [Nat.add_zero] at g0
  generalize s.get! i = x0 at g0 ⊢
  have b0:=x0.toNat_lt
  have b1:=x1.toNat_lt
  have b2:=x2.toNat_lt
  have b3:=x3.toNat_lt
  generalize x0.toNat = y0 at g0 b0 ⊢
  generalize x1.toNat = y1 at g1 b1 ⊢
  generalize x2.toNat = y2 at g2 b2 ⊢
  generalize x3.toNat = y3 at g3 b3 ⊢
  have f0 : bt s (i : Int) = y0:=by simpa using g0
  have f1 : bt s ((i : Int) + 1) = y1:=g1
  have f2 : bt s ((i : Int) + 2) = y2:=g2
  have f3 : bt s ((i : Int) + 3) = y3:=g3
  obtain ⟨m,hm⟩ : ∃ m,s.size - i = m:=⟨_,rfl⟩
  rw [hm]
  have e64 : wrap64 ((s.size : Int) - (i : Int)) = m:=by rw [w64s (by omega) (by omega)];omega
  have W2:=fun lo hi'=>next_w2 (lo:=lo) (hi:=hi') hm hi hz f0 f1 k
  have W3:=fun lo hi'=>next_w3 (lo:=lo) (hi:=hi') hm hi hz f0 f1 f2 k
  have W4:=fun lo hi'=>next_w4 (lo:=lo) (hi:=hi') hm hi hz f0 f1 f2 f3 k
  unfold rebusref01_Next.f
  rw [if_neg (by omega),decide_eq_false (by omega : ¬ (i : Int) ≥ (s.size : Int))]
  rw [show k + 10 = (k + 9) + 1 from rfl]
  unfold rebusref01_Next.j0
  simp only [Bool.false_eq_true,if_false]
  rw [if_pos (by omega),if_pos (by omega),show k + 9 = (k + 6) + 3 from rfl,row_eq,f0,show k + 6 + 3 = k + 9 from rfl]
  simp only [Option.bind_some,e64]
  have hmp : 1 ≤ m:=by omega
  have bad : ∀ (c : Prop) [Decidable c] (a : Int × Int) (b : Nat × Nat),(c → b = (65533,1)) → (¬ c → a = ((b.1 : Int),(b.2 : Int))) → some (if c then ((65533 : Int),(1 : Int)) else a) = some ((b.1 : Int),(b.2 : Int)):=by
    intro c _ a b h1 h2
    by_cases h : c
    · rw [if_pos h,h1 h];rfl
    · rw [if_neg h,h2 h]
  have hrow : ∀ (w lo hi' : Int),rowOf (y0 : Int) = (w,lo,hi') → w ≠ 0 → (if (rowOf (y0 : Int)).1 = 0 then rebusref01_Next.j1 (k + 9) s (i : Int) (rowOf (y0 : Int)).1 (rowOf (y0 : Int)).2.1 (rowOf (y0 : Int)).2.2 true else rebusref01_Next.j1 (k + 9) s (i : Int) (rowOf (y0 : Int)).1 (rowOf (y0 : Int)).2.1 (rowOf (y0 : Int)).2.2 (decide ((m : Int) < (rowOf (y0 : Int)).1))) = rebusref01_Next.j1 (k + 9) s (i : Int) w lo hi' (decide ((m : Int) < w)):=by
    intro w lo hi' h h0
    rw [h,if_neg h0]
  rcases (by omega : y0 < 128 ∨ (128 ≤ y0 ∧ y0 < 194) ∨ (194 ≤ y0 ∧ y0 ≤ 223) ∨ y0 = 224 ∨ (225 ≤ y0 ∧ y0 ≤ 239 ∧ y0 ≠ 237) ∨ y0 = 237 ∨ y0 = 240 ∨ (241 ≤ y0 ∧ y0 ≤ 243) ∨ y0 = 244 ∨ 245 ≤ y0) with h | h | h | h | h | h | h | h | h | h
  · rw [hrow 1 0 0 (by unfold rowOf;repeat (first | rw [if_pos (by omega)] | rw [if_neg (by omega)])) (by decide)]
    rw [decide_eq_false (by omega : ¬ (m : Int) < 1),show k + 9 = (k + 6) + 1 + 1 + 1 from rfl]
    simp only [rebusref01_Next.j1,rebusref01_Next.j2,Bool.false_eq_true,if_false]
    rw [if_pos (by omega),if_pos (by omega),if_neg (by decide),if_neg (by decide),if_neg (by decide),f0,w64s (by omega) (by omega),next_end _ s i 1 0 0 _ (by omega)]
    unfold Lib.decodeN
    rw [if_pos h]
    rfl
  · have hr : rowOf (y0 : Int) = (0,0,0):=by unfold rowOf;repeat (first | rw [if_pos (by omega)] | rw [if_neg (by omega)])
    rw [hr,if_pos rfl,show k + 9 = (k + 8) + 1 from rfl]
    simp only [rebusref01_Next.j1,if_true]
    have : Lib.decodeN m y0 y1 y2 y3 = (65533,1):=by
      unfold Lib.decodeN
      repeat' split
      all_goals first | rfl | (exfalso;omega)
    rw [this];rfl
  · rw [hrow 2 128 191 (by unfold rowOf;repeat (first | rw [if_pos (by omega)] | rw [if_neg (by omega)])) (by decide),W2]
    refine bad _ _ _ (fun c=>?_) (fun c=>?_)
    · unfold Lib.decodeN
      repeat' split
      all_goals first | rfl | (exfalso;omega)
    · unfold Lib.decodeN
      rw [if_neg (by omega),if_pos (by omega),if_pos (by omega)]
      refine Prod.ext ?_ ?_ <;> dsimp only <;> omega
  · rw [hrow 3 160 191 (by unfold rowOf;repeat (first | rw [if_pos (by omega)] | rw [if_neg (by omega)])) (by decide),W3]
    refine bad _ _ _ (fun c=>?_) (fun c=>?_)
    · unfold Lib.decodeN
      repeat' split
      all_goals first | rfl | (exfalso;omega)
    · unfold Lib.decodeN
      rw [if_neg (by omega),if_neg (by omega),if_pos (by omega),if_pos (by omega)]
      refine Prod.ext ?_ ?_ <;> dsimp only <;> omega
  · rw [hrow 3 128 191 (by unfold rowOf;repeat (first | rw [if_pos (by omega)] | rw [if_neg (by omega)])) (by decide),W3]
    refine bad _ _ _ (fun c=>?_) (fun c=>?_)
    · unfold Lib.decodeN
      repeat' split
      all_goals first | rfl | (exfalso;omega)
    · unfold Lib.decodeN
      rw [if_neg (by omega),if_neg (by omega),if_pos (by omega),if_pos (by omega)]
      refine Prod.ext ?_ ?_ <;> dsimp only <;> omega
  · rw [hrow 3 128 159 (by unfold rowOf;repeat (first | rw [if_pos (by omega)] | rw [if_neg (by omega)])) (by decide),W3]
    refine bad _ _ _ (fun c=>?_) (fun c=>?_)
    · unfold Lib.decodeN
      repeat' split
      all_goals first | rfl | (exfalso;omega)
    · unfold Lib.decodeN
      rw [if_neg (by omega),if_neg (by omega),if_pos (by omega),if_pos (by omega)]
      refine Prod.ext ?_ ?_ <;> dsimp only <;> omega
  · rw [hrow 4 144 191 (by unfold rowOf;repeat (first | rw [if_pos (by omega)] | rw [if_neg (by omega)])) (by decide),W4]
    refine bad _ _ _ (fun c=>?_) (fun c=>?_)
    · unfold Lib.decodeN
      repeat' split
      all_goals first | rfl | (exfalso;omega)
    · unfold Lib.decodeN
      rw [if_neg (by omega),if_neg (by omega),if_neg (by omega),if_pos (by omega),if_pos (by omega)]
      refine Prod.ext ?_ ?_ <;> dsimp only <;> omega
  · rw [hrow 4 128 191 (by unfold rowOf;repeat (first | rw [if_pos (by omega)] | rw [if_neg (by omega)])) (by decide),W4]
    refine bad _ _ _ (fun c=>?_) (fun c=>?_)
    · unfold Lib.decodeN
      repeat' split
      all_goals first | rfl | (exfalso;omega)
    · unfold Lib.decodeN
      rw [if_neg (by omega),if_neg (by omega),if_neg (by omega),if_pos (by omega),if_pos (by omega)]
      refine Prod.ext ?_ ?_ <;> dsimp only <;> omega
  · rw [hrow 4 128 143 (by unfold rowOf;repeat (first | rw [if_pos (by omega)] | rw [if_neg (by omega)])) (by decide),W4]
    refine bad _ _ _ (fun c=>?_) (fun c=>?_)
    · unfold Lib.decodeN
      repeat' split
      all_goals first | rfl | (exfalso;omega)
    · unfold Lib.decodeN
      rw [if_neg (by omega),if_neg (by omega),if_neg (by omega),if_pos (by omega),if_pos (by omega)]
      refine Prod.ext ?_ ?_ <;> dsimp only <;> omega
  · have hr : rowOf (y0 : Int) = (0,0,0):=by unfold rowOf;repeat (first | rw [if_pos (by omega)] | rw [if_neg (by omega)])
    rw [hr,if_pos rfl,show k + 9 = (k + 8) + 1 from rfl]
    simp only [rebusref01_Next.j1,if_true]
    have : Lib.decodeN m y0 y1 y2 y3 = (65533,1):=by
      unfold Lib.decodeN
      repeat' split
      all_goals first | rfl | (exfalso;omega)
    rw [this];rfl
end Go.Proofs.YtpfbcepgmigeiaaGreatDoor.Q
end
