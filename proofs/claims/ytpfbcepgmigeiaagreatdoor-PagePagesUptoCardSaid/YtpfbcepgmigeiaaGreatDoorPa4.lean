/- PART 4 OF A PROOF: Lean functions, and that the program computes them; written by hand and by a program. Not trusted: Lean checks it. -/
import Derived.Test.YtpfbcepgmigeiaaGreatDoorPa3
set_option linter.unusedVariables false
set_option linter.unusedSimpArgs false
namespace Go.Proofs.YtpfbcepgmigeiaaGreatDoor.Q
open Go.RowKit Go.Proofs.YtpfbcepgmigeiaaGreatDoorW.PrintWords Go.Proofs.YtpfbcepgmigeiaaGreatDoorW.PrintLast Go.Proofs.YtpfbcepgmigeiaaGreatDoorW.PrintMore
attribute [local go_sem] max2_int min2_int max_two min_two max_three min_three max_four min_four
set_option linter.unusedVariables false
set_option linter.unusedSimpArgs false
mutual
def grid_Check.j0 : Nat → Bool → Int → Int → List Bool → List Bool → List Bool → Option (Int)
 | 0,_,_,_,_,_,_=>none
 | k + 1,x17,x102000,x102001,x102002,x102003,x102004=>if x17 = true then (some 50) else (if (x102002.length : Int) = (wrap64 (x102000 * x102001)) then (if (x102003.length : Int) = (wrap64 (x102000 * x102001)) then (grid_Check.j1 k ((x102004.length : Int) != (wrap64 (x102000 * x102001))) x102000 x102001 x102002 x102003 x102004) else (grid_Check.j1 k true x102000 x102001 x102002 x102003 x102004)) else (grid_Check.j1 k true x102000 x102001 x102002 x102003 x102004))
def grid_Check.j1 : Nat → Bool → Int → Int → List Bool → List Bool → List Bool → Option (Int)
 | 0,_,_,_,_,_,_=>none
 | k + 1,x41,x102000,x102001,x102002,x102003,x102004=>if x41 = true then (some 51) else (grid_Check.l0 k x102002 (x102002.length : Int) 0 x102000 x102001 x102002 x102003 x102004)
def grid_Check.l0 : Nat → List Bool → Int → Int → Int → Int → List Bool → List Bool → List Bool → Option (Int)
 | 0,_,_,_,_,_,_,_,_=>none
 | k + 1,x43,x44,x45,x102000,x102001,x102002,x102003,x102004=>if x45 < x44 then (if 0 ≤ x45 then (if x45 < (x43.length : Int) then (if x102001 = 0 then (none) else (if x45 < (x102003.length : Int) then (if rdOf false x102003 x45 = true then (if rdOf false x43 x45 = true then (some 52) else (if (Int.tmod x45 x102001) = (wrap64 (x102001 - 1)) then (some 52) else (if 0 ≤ (wrap64 (x45 + 1)) then (if (wrap64 (x45 + 1)) < (x102002.length : Int) then (if rdOf false x102002 (wrap64 (x45 + 1)) = true then (some 52) else (if x45 < (x102004.length : Int) then (if rdOf false x102004 x45 = true then (if (wrap64 (Int.tdiv x45 x102001)) = (wrap64 (x102000 - 1)) then (some 52) else (if 0 ≤ (wrap64 (x45 + x102001)) then (if (wrap64 (x45 + x102001)) < (x102002.length : Int) then (if rdOf false x102002 (wrap64 (x45 + x102001)) = true then (some 52) else (grid_Check.l0 k x43 x44 (wrap64 (x45 + 1)) x102000 x102001 x102002 x102003 x102004)) else (none)) else (none))) else (grid_Check.l0 k x43 x44 (wrap64 (x45 + 1)) x102000 x102001 x102002 x102003 x102004)) else (none))) else (none)) else (none)))) else (if x45 < (x102004.length : Int) then (if rdOf false x102004 x45 = true then (if rdOf false x43 x45 = true then (some 52) else (if (wrap64 (Int.tdiv x45 x102001)) = (wrap64 (x102000 - 1)) then (some 52) else (if 0 ≤ (wrap64 (x45 + x102001)) then (if (wrap64 (x45 + x102001)) < (x102002.length : Int) then (if rdOf false x102002 (wrap64 (x45 + x102001)) = true then (some 52) else (grid_Check.l0 k x43 x44 (wrap64 (x45 + 1)) x102000 x102001 x102002 x102003 x102004)) else (none)) else (none)))) else (grid_Check.l0 k x43 x44 (wrap64 (x45 + 1)) x102000 x102001 x102002 x102003 x102004)) else (none))) else (none))) else (none)) else (none)) else (some 0)
end
def grid_Check.f (k : Nat) (a0_0 : Int) (a0_1 : Int) (l0_2 : List Bool) (l0_3 : List Bool) (l0_4 : List Bool) : Option (Int):=(grid_side.f a0_0).bind fun t102=>(if t102 = true then ((grid_side.f a0_1).bind fun t103=>(grid_Check.j0 k (!t103) a0_0 a0_1 l0_2 l0_3 l0_4)) else (grid_Check.j0 k true a0_0 a0_1 l0_2 l0_3 l0_4))
set_option maxHeartbeats 8000000 in
set_option maxRecDepth 100000 in
theorem grid_Check.calls (k : Nat) (a0_0 : Int) (a0_1 : Int) (A0_2 : Option Addr) (c0_2 : Nat) (l0_2 : List Bool) (A0_3 : Option Addr) (c0_3 : Nat) (l0_3 : List Bool) (A0_4 : Option Addr) (c0_4 : Nat) (l0_4 : List Bool) (r : Int) (w : World) (hr0_2 : Kd.C Kd.bool w A0_2 l0_2.length l0_2) (hc0_2 : l0_2.length ≤ c0_2) (hr0_3 : Kd.C Kd.bool w A0_3 l0_3.length l0_3) (hc0_3 : l0_3.length ≤ c0_3) (hr0_4 : Kd.C Kd.bool w A0_4 l0_4.length l0_4) (hc0_4 : l0_4.length ≤ c0_4) (h : grid_Check.f k a0_0 a0_1 l0_2 l0_3 l0_4 = some r) :
  Calls Tryz.prog 37 #[.agg #[.int .i64 a0_0,.int .i64 a0_1,.slice A0_2 l0_2.length c0_2,.slice A0_3 l0_3.length c0_3,.slice A0_4 l0_4.length c0_4]] w fun e w'=>e = .returned (.int .i64 r) ∧ Below w.heap.size w w':=by
 have hu24:=Tryz.underlying24
 have HR0_2:=Aside0.mk hr0_2
 have HC0_2:=Aside0.mk hc0_2
 clear hr0_2 hc0_2
 have HR0_3:=Aside0.mk hr0_3
 have HC0_3:=Aside0.mk hc0_3
 clear hr0_3 hc0_3
 have HR0_4:=Aside0.mk hr0_4
 have HC0_4:=Aside0.mk hc0_4
 clear hr0_4 hc0_4
 have HB:=Aside0.mk (Below.refl w.heap.size w)
 have H : ((grid_side.f a0_0).bind fun t102=>(if t102 = true then ((grid_side.f a0_1).bind fun t103=>(grid_Check.j0 k (!t103) a0_0 a0_1 l0_2 l0_3 l0_4)) else (grid_Check.j0 k true a0_0 a0_1 l0_2 l0_3 l0_4))) = some r:=h
 clear h
 have HC2:=Aside0.mk H
 clear H
 go_enter Tryz.func37,Tryz.ntmps37
 go_upto_region 1 with (first | ((with_reducible refine gate_dst (N:=1) rfl ?_);(try (refine gate_guard (by rfl) ?_;dsimp only));refine box_event ?hg (N:=1) ?hd (cs:=#[.int .i64 a0_0,.int .i64 a0_1,.slice A0_2 l0_2.length c0_2,.slice A0_3 l0_3.length c0_3,.slice A0_4 l0_4.length c0_4]) (t:=24) ?hr ?_;(case hd=>rfl);(case hg=>rfl);(case hr=>first | (go_simp;done) | (go_simp;rfl));intro gb101 hg w3 hbox hb;have n0_:=Aside0.mk (below_step (by repeat (first | (with_reducible first | exact HB.out | apply below_alloc | apply pw_below_drewN | apply below_drew1) | exact HB.out)) hb);have n1_:=Aside0.mk (hbox);have n2_:=Aside0.mk ((by rw [hg];exact (below_size (by repeat (first | (with_reducible first | exact HB.out | apply below_alloc | apply pw_below_drewN | apply below_drew1) | exact HB.out))) : w.heap.size ≤ gb101));have n3_:=Aside0.mk ((by rw [hg];exact (below_size (by repeat (first | (with_reducible first | exact HB.out | apply below_alloc | apply pw_below_drewN | apply below_drew1) | exact HB.out))) : w.heap.size ≤ gb101));clear HB;have HB:=n0_;have BK101:=n1_;have GW101:=n2_;have GE101:=n3_;clear n0_ n1_ n2_ n3_;clear hb hbox hg))
 repeat (go_quiet (first | ((with_reducible refine gate_dst (N:=1) rfl ?_);(try (refine gate_guard (by rfl) ?_;dsimp only));refine box_event ?hg (N:=1) ?hd (cs:=#[.int .i64 a0_0,.int .i64 a0_1,.slice A0_2 l0_2.length c0_2,.slice A0_3 l0_3.length c0_3,.slice A0_4 l0_4.length c0_4]) (t:=24) ?hr ?_;(case hd=>rfl);(case hg=>rfl);(case hr=>first | (go_simp;done) | (go_simp;rfl));intro gb101 hg w3 hbox hb;have n0_:=Aside0.mk (below_step (by repeat (first | (with_reducible first | exact HB.out | apply below_alloc | apply pw_below_drewN | apply below_drew1) | exact HB.out)) hb);have n1_:=Aside0.mk (hbox);have n2_:=Aside0.mk ((by rw [hg];exact (below_size (by repeat (first | (with_reducible first | exact HB.out | apply below_alloc | apply pw_below_drewN | apply below_drew1) | exact HB.out))) : w.heap.size ≤ gb101));have n3_:=Aside0.mk ((by rw [hg];exact (below_size (by repeat (first | (with_reducible first | exact HB.out | apply below_alloc | apply pw_below_drewN | apply below_drew1) | exact HB.out))) : w.heap.size ≤ gb101));clear HB;have HB:=n0_;have BK101:=n1_;have GW101:=n2_;have GE101:=n3_;clear n0_ n1_ n2_ n3_;clear hb hbox hg));go_upto_region 1 with (first | ((with_reducible refine gate_dst (N:=1) rfl ?_);(try (refine gate_guard (by rfl) ?_;dsimp only));refine box_event ?hg (N:=1) ?hd (cs:=#[.int .i64 a0_0,.int .i64 a0_1,.slice A0_2 l0_2.length c0_2,.slice A0_3 l0_3.length c0_3,.slice A0_4 l0_4.length c0_4]) (t:=24) ?hr ?_;(case hd=>rfl);(case hg=>rfl);(case hr=>first | (go_simp;done) | (go_simp;rfl));intro gb101 hg w3 hbox hb;have n0_:=Aside0.mk (below_step (by repeat (first | (with_reducible first | exact HB.out | apply below_alloc | apply pw_below_drewN | apply below_drew1) | exact HB.out)) hb);have n1_:=Aside0.mk (hbox);have n2_:=Aside0.mk ((by rw [hg];exact (below_size (by repeat (first | (with_reducible first | exact HB.out | apply below_alloc | apply pw_below_drewN | apply below_drew1) | exact HB.out))) : w.heap.size ≤ gb101));have n3_:=Aside0.mk ((by rw [hg];exact (below_size (by repeat (first | (with_reducible first | exact HB.out | apply below_alloc | apply pw_below_drewN | apply below_drew1) | exact HB.out))) : w.heap.size ≤ gb101));clear HB;have HB:=n0_;have BK101:=n1_;have GW101:=n2_;have GE101:=n3_;clear n0_ n1_ n2_ n3_;clear hb hbox hg)))
 (try simp only [Act.put,List.setIfInBounds_toArray,List.set_cons_zero,List.set_cons_succ])
 go_cut [17] (fun v17 wc=>∃ (kq : Nat) (x17_1 : Bool),v17 = .bool x17_1 ∧ Aside0 (grid_Check.j0 kq x17_1 a0_0 a0_1 l0_2 l0_3 l0_4 = some r) ∧ Aside0 (kq ≤ k) ∧ Aside0 (wc.heap[gb101]? = some (.cells #[.int .i64 a0_0,.int .i64 a0_1,(.slice A0_2 l0_2.length c0_2),(.slice A0_3 l0_3.length c0_3),(.slice A0_4 l0_4.length c0_4)] 24 (0,0))) ∧ Aside0 (Below w.heap.size w wc))
 case first =>
  have H:=HC2.out
  clear HC2
  replace H:=Option.bind_eq_some_iff.mp H
  obtain ⟨t102,A40,H⟩:=H
  replace H : (if t102 = true then ((grid_side.f a0_1).bind fun t103=>(grid_Check.j0 k (!t103) a0_0 a0_1 l0_2 l0_3 l0_4)) else (grid_Check.j0 k true a0_0 a0_1 l0_2 l0_3 l0_4)) = some r:=H
  have A4:=Aside0.mk A40
  clear A40
  by_cases c5 : t102 = true
  ·subst c5
   have H1 : ((grid_side.f a0_1).bind fun t103=>(grid_Check.j0 k (!t103) a0_0 a0_1 l0_2 l0_3 l0_4)) = some r:=by rw [if_pos rfl] at H;exact H
   clear H
   have H:=H1
   clear H1
   replace H:=Option.bind_eq_some_iff.mp H
   obtain ⟨t103,A60,H⟩:=H
   replace H : (grid_Check.j0 k (!t103) a0_0 a0_1 l0_2 l0_3 l0_4) = some r:=H
   have A6:=Aside0.mk A60
   clear A60
   have H':=Aside0.mk H
   clear H
   have hcz7_0 : w3.cell? ⟨gb101,0,none⟩ = some (.int .i64 a0_0):=(blk_cell BK101.out 0).trans rfl
   have hcz7_1 : w3.cell? ⟨gb101,1,none⟩ = some (.int .i64 a0_1):=(blk_cell BK101.out 1).trans rfl
   have hcz7_2 : w3.cell? ⟨gb101,2,none⟩ = some (.slice A0_2 l0_2.length c0_2):=(blk_cell BK101.out 2).trans rfl
   have hcz7_3 : w3.cell? ⟨gb101,3,none⟩ = some (.slice A0_3 l0_3.length c0_3):=(blk_cell BK101.out 3).trans rfl
   have hcz7_4 : w3.cell? ⟨gb101,4,none⟩ = some (.slice A0_4 l0_4.length c0_4):=(blk_cell BK101.out 4).trans rfl
   have hfz7_0:=blk_frozen BK101.out 0
   have hfz7_1:=blk_frozen BK101.out 1
   have hfz7_2:=blk_frozen BK101.out 2
   have hfz7_3:=blk_frozen BK101.out 3
   have hfz7_4:=blk_frozen BK101.out 4
   go_wp2_with (first | (go_at_call 64;(with_reducible refine (grid_side.calls a0_0 true _ A4.out).mono ?_);rintro e w' ⟨rfl,⟨nd,rfl⟩⟩;(try first | exact ⟨rfl,_,World.drewN_drewN _ _ _⟩ | exact ⟨rfl,_,Eq.trans (World.drewN_drewN _ _ _) (congrArg (World.drewN _) (Nat.add_assoc _ _ _))⟩)) | (go_at_call 64;(with_reducible refine (grid_side.calls a0_1 t103 _ A6.out).mono ?_);rintro e w' ⟨rfl,⟨nd,rfl⟩⟩;(try first | exact ⟨rfl,_,World.drewN_drewN _ _ _⟩ | exact ⟨rfl,_,Eq.trans (World.drewN_drewN _ _ _) (congrArg (World.drewN _) (Nat.add_assoc _ _ _))⟩)))
   repeat (go_quiet (first | (go_at_call 64;(with_reducible refine (grid_side.calls a0_0 true _ A4.out).mono ?_);rintro e w' ⟨rfl,⟨nd,rfl⟩⟩;(try first | exact ⟨rfl,_,World.drewN_drewN _ _ _⟩ | exact ⟨rfl,_,Eq.trans (World.drewN_drewN _ _ _) (congrArg (World.drewN _) (Nat.add_assoc _ _ _))⟩)) | (go_at_call 64;(with_reducible refine (grid_side.calls a0_1 t103 _ A6.out).mono ?_);rintro e w' ⟨rfl,⟨nd,rfl⟩⟩;(try first | exact ⟨rfl,_,World.drewN_drewN _ _ _⟩ | exact ⟨rfl,_,Eq.trans (World.drewN_drewN _ _ _) (congrArg (World.drewN _) (Nat.add_assoc _ _ _))⟩)));try go_wp2_with (first | (go_at_call 64;(with_reducible refine (grid_side.calls a0_0 true _ A4.out).mono ?_);rintro e w' ⟨rfl,⟨nd,rfl⟩⟩;(try first | exact ⟨rfl,_,World.drewN_drewN _ _ _⟩ | exact ⟨rfl,_,Eq.trans (World.drewN_drewN _ _ _) (congrArg (World.drewN _) (Nat.add_assoc _ _ _))⟩)) | (go_at_call 64;(with_reducible refine (grid_side.calls a0_1 t103 _ A6.out).mono ?_);rintro e w' ⟨rfl,⟨nd,rfl⟩⟩;(try first | exact ⟨rfl,_,World.drewN_drewN _ _ _⟩ | exact ⟨rfl,_,Eq.trans (World.drewN_drewN _ _ _) (congrArg (World.drewN _) (Nat.add_assoc _ _ _))⟩))))
   go_meet
   case rel=>exact ⟨_,(!t103),(by first | rfl | (simp;done) | (simp [*];done)),H',⟨by first | omega | exact Nat.le_refl _⟩,⟨by (with_reducible repeat (first | refine blk_drewN ?_ _ | refine blk_drew ?_ | refine blk_alloc ?_ _));exact BK101.out⟩,⟨by repeat (first | (with_reducible first | exact HB.out | apply below_alloc | apply pw_below_drewN | apply below_drew1 | refine below_set ?_ GE101.out) | exact HB.out)⟩⟩
  ·replace c5:=Bool.eq_false_iff.mpr c5
   subst c5
   have H1 : (grid_Check.j0 k true a0_0 a0_1 l0_2 l0_3 l0_4) = some r:=by rw [if_neg (show ¬ (false = true) by decide)] at H;exact H
   clear H
   have H:=H1
   clear H1
   have H':=Aside0.mk H
   clear H
   have hcz8_0 : w3.cell? ⟨gb101,0,none⟩ = some (.int .i64 a0_0):=(blk_cell BK101.out 0).trans rfl
   have hcz8_1 : w3.cell? ⟨gb101,1,none⟩ = some (.int .i64 a0_1):=(blk_cell BK101.out 1).trans rfl
   have hcz8_2 : w3.cell? ⟨gb101,2,none⟩ = some (.slice A0_2 l0_2.length c0_2):=(blk_cell BK101.out 2).trans rfl
   have hcz8_3 : w3.cell? ⟨gb101,3,none⟩ = some (.slice A0_3 l0_3.length c0_3):=(blk_cell BK101.out 3).trans rfl
   have hcz8_4 : w3.cell? ⟨gb101,4,none⟩ = some (.slice A0_4 l0_4.length c0_4):=(blk_cell BK101.out 4).trans rfl
   have hfz8_0:=blk_frozen BK101.out 0
   have hfz8_1:=blk_frozen BK101.out 1
   have hfz8_2:=blk_frozen BK101.out 2
   have hfz8_3:=blk_frozen BK101.out 3
   have hfz8_4:=blk_frozen BK101.out 4
   go_wp2_with (first | (go_at_call 64;(with_reducible refine (grid_side.calls a0_0 false _ A4.out).mono ?_);rintro e w' ⟨rfl,⟨nd,rfl⟩⟩;(try first | exact ⟨rfl,_,World.drewN_drewN _ _ _⟩ | exact ⟨rfl,_,Eq.trans (World.drewN_drewN _ _ _) (congrArg (World.drewN _) (Nat.add_assoc _ _ _))⟩)))
   repeat (go_quiet (first | (go_at_call 64;(with_reducible refine (grid_side.calls a0_0 false _ A4.out).mono ?_);rintro e w' ⟨rfl,⟨nd,rfl⟩⟩;(try first | exact ⟨rfl,_,World.drewN_drewN _ _ _⟩ | exact ⟨rfl,_,Eq.trans (World.drewN_drewN _ _ _) (congrArg (World.drewN _) (Nat.add_assoc _ _ _))⟩)));try go_wp2_with (first | (go_at_call 64;(with_reducible refine (grid_side.calls a0_0 false _ A4.out).mono ?_);rintro e w' ⟨rfl,⟨nd,rfl⟩⟩;(try first | exact ⟨rfl,_,World.drewN_drewN _ _ _⟩ | exact ⟨rfl,_,Eq.trans (World.drewN_drewN _ _ _) (congrArg (World.drewN _) (Nat.add_assoc _ _ _))⟩))))
   go_meet
   case rel=>exact ⟨_,(true),(by first | rfl | (simp;done) | (simp [*];done)),H',⟨by first | omega | exact Nat.le_refl _⟩,⟨by (with_reducible repeat (first | refine blk_drewN ?_ _ | refine blk_drew ?_ | refine blk_alloc ?_ _));exact BK101.out⟩,⟨by repeat (first | (with_reducible first | exact HB.out | apply below_alloc | apply pw_below_drewN | apply below_drew1 | refine below_set ?_ GE101.out) | exact HB.out)⟩⟩
 case rest =>
  clear HC2
  try clear p2
  try clear c3
  try clear c5
  try clear hcz7_0
  try clear hcz7_1
  try clear hcz7_2
  try clear hcz7_3
  try clear hcz7_4
  try clear hcz8_0
  try clear hcz8_1
  try clear hcz8_2
  try clear hcz8_3
  try clear hcz8_4
  try clear hfz7_0
  try clear hfz7_1
  try clear hfz7_2
  try clear hfz7_3
  try clear hfz7_4
  try clear hfz8_0
  try clear hfz8_1
  try clear hfz8_2
  try clear hfz8_3
  try clear hfz8_4
  obtain ⟨kq,x17_1,rfl,HA,HJ1,BK101,HB⟩:=hcut
  cases kq with
  | zero=>exact absurd HA.out (by simp [grid_Check.j0])
  | succ kj1 =>
   have H:=HA.out
   clear HA
   simp only [grid_Check.j0] at H
   by_cases c9 : x17_1 = true
   ·subst c9
    have H1 : (some 50) = some r:=by rw [if_pos rfl] at H;exact H
    clear H
    have H:=H1
    clear H1
    obtain rfl:=Option.some.inj H
    go_wp2
    repeat (go_quiet (fail);try go_wp2)
    go_ret
    exact ⟨by first | rfl | (simp [errW_none,errW_some] <;> rfl) | (simp [*,errW_none,errW_some] <;> rfl) | (exfalso;contradiction),by repeat (first | (with_reducible first | exact HB.out | apply below_alloc | apply pw_below_drewN | apply below_drew1 | refine below_set ?_ GE101.out) | exact HB.out)⟩
   ·replace c9:=Bool.eq_false_iff.mpr c9
    subst c9
    have H1 : (if (l0_2.length : Int) = (wrap64 (a0_0 * a0_1)) then (if (l0_3.length : Int) = (wrap64 (a0_0 * a0_1)) then (grid_Check.j1 kj1 ((l0_4.length : Int) != (wrap64 (a0_0 * a0_1))) a0_0 a0_1 l0_2 l0_3 l0_4) else (grid_Check.j1 kj1 true a0_0 a0_1 l0_2 l0_3 l0_4)) else (grid_Check.j1 kj1 true a0_0 a0_1 l0_2 l0_3 l0_4)) = some r:=by rw [if_neg (show ¬ (false = true) by decide)] at H;exact H
    clear H
    have H:=H1
    clear H1
    have HC10:=Aside0.mk H
    clear H
    have hcz11_0 : wc.cell? ⟨gb101,0,none⟩ = some (.int .i64 a0_0):=(blk_cell BK101.out 0).trans rfl
    have hcz11_1 : wc.cell? ⟨gb101,1,none⟩ = some (.int .i64 a0_1):=(blk_cell BK101.out 1).trans rfl
    have hcz11_2 : wc.cell? ⟨gb101,2,none⟩ = some (.slice A0_2 l0_2.length c0_2):=(blk_cell BK101.out 2).trans rfl
    have hcz11_3 : wc.cell? ⟨gb101,3,none⟩ = some (.slice A0_3 l0_3.length c0_3):=(blk_cell BK101.out 3).trans rfl
    have hcz11_4 : wc.cell? ⟨gb101,4,none⟩ = some (.slice A0_4 l0_4.length c0_4):=(blk_cell BK101.out 4).trans rfl
    have hfz11_0:=blk_frozen BK101.out 0
    have hfz11_1:=blk_frozen BK101.out 1
    have hfz11_2:=blk_frozen BK101.out 2
    have hfz11_3:=blk_frozen BK101.out 3
    have hfz11_4:=blk_frozen BK101.out 4
    go_upto_region 4 with (fail)
    repeat (go_quiet (fail);go_upto_region 4 with (fail))
    go_cut [41] (fun v41 wc=>∃ (kq : Nat) (x41_9 : Bool),v41 = .bool x41_9 ∧ Aside0 (grid_Check.j1 kq x41_9 a0_0 a0_1 l0_2 l0_3 l0_4 = some r) ∧ Aside0 (kq ≤ kj1) ∧ Aside0 (wc.heap[gb101]? = some (.cells #[.int .i64 a0_0,.int .i64 a0_1,(.slice A0_2 l0_2.length c0_2),(.slice A0_3 l0_3.length c0_3),(.slice A0_4 l0_4.length c0_4)] 24 (0,0))) ∧ Aside0 (Below w.heap.size w wc))
    case first =>
     have H:=HC10.out
     clear HC10
     by_cases c12 : (l0_2.length : Int) = (wrap64 (a0_0 * a0_1))
     ·rw [if_pos c12] at H
      have c12b0 : ((l0_2.length : Int) == (wrap64 (a0_0 * a0_1))) = true:=beq_iff_eq.mpr c12
      have c12b1 : ((l0_2.length : Int) != (wrap64 (a0_0 * a0_1))) = false:=bne_eq_false_iff_eq.mpr c12
      clear c12
      (first | rw [c12b0] | (simp only [i64_w,i32_w];rw [c12b0]) | skip)
      by_cases c13 : (l0_3.length : Int) = (wrap64 (a0_0 * a0_1))
      ·rw [if_pos c13] at H
       have c13b0 : ((l0_3.length : Int) == (wrap64 (a0_0 * a0_1))) = true:=beq_iff_eq.mpr c13
       have c13b1 : ((l0_3.length : Int) != (wrap64 (a0_0 * a0_1))) = false:=bne_eq_false_iff_eq.mpr c13
       clear c13
       have H':=Aside0.mk H
       clear H
       have hcz14_0 : wc.cell? ⟨gb101,0,none⟩ = some (.int .i64 a0_0):=(blk_cell BK101.out 0).trans rfl
       have hcz14_1 : wc.cell? ⟨gb101,1,none⟩ = some (.int .i64 a0_1):=(blk_cell BK101.out 1).trans rfl
       have hcz14_2 : wc.cell? ⟨gb101,2,none⟩ = some (.slice A0_2 l0_2.length c0_2):=(blk_cell BK101.out 2).trans rfl
       have hcz14_3 : wc.cell? ⟨gb101,3,none⟩ = some (.slice A0_3 l0_3.length c0_3):=(blk_cell BK101.out 3).trans rfl
       have hcz14_4 : wc.cell? ⟨gb101,4,none⟩ = some (.slice A0_4 l0_4.length c0_4):=(blk_cell BK101.out 4).trans rfl
       have hfz14_0:=blk_frozen BK101.out 0
       have hfz14_1:=blk_frozen BK101.out 1
       have hfz14_2:=blk_frozen BK101.out 2
       have hfz14_3:=blk_frozen BK101.out 3
       have hfz14_4:=blk_frozen BK101.out 4
       go_wp2
       repeat (go_quiet (fail);try go_wp2)
       go_meet
       case rel=>exact ⟨_,(((l0_4.length : Int) != (wrap64 (a0_0 * a0_1)))),(by first | rfl | (simp;done) | (simp [*];done)),H',⟨by have:=HJ1.out;first | omega | exact Nat.le_refl _⟩,⟨by (with_reducible repeat (first | refine blk_drewN ?_ _ | refine blk_drew ?_ | refine blk_alloc ?_ _));exact BK101.out⟩,⟨by repeat (first | (with_reducible first | exact HB.out | apply below_alloc | apply pw_below_drewN | apply below_drew1 | refine below_set ?_ GE101.out) | exact HB.out)⟩⟩
      ·rw [if_neg c13] at H
       have c13b0 : ((l0_3.length : Int) == (wrap64 (a0_0 * a0_1))) = false:=beq_eq_false_iff_ne.mpr c13
       have c13b1 : ((l0_3.length : Int) != (wrap64 (a0_0 * a0_1))) = true:=bne_iff_ne.mpr c13
       have H':=Aside0.mk H
       clear H
       have hcz15_0 : wc.cell? ⟨gb101,0,none⟩ = some (.int .i64 a0_0):=(blk_cell BK101.out 0).trans rfl
       have hcz15_1 : wc.cell? ⟨gb101,1,none⟩ = some (.int .i64 a0_1):=(blk_cell BK101.out 1).trans rfl
       have hcz15_2 : wc.cell? ⟨gb101,2,none⟩ = some (.slice A0_2 l0_2.length c0_2):=(blk_cell BK101.out 2).trans rfl
       have hcz15_3 : wc.cell? ⟨gb101,3,none⟩ = some (.slice A0_3 l0_3.length c0_3):=(blk_cell BK101.out 3).trans rfl
       have hcz15_4 : wc.cell? ⟨gb101,4,none⟩ = some (.slice A0_4 l0_4.length c0_4):=(blk_cell BK101.out 4).trans rfl
       have hfz15_0:=blk_frozen BK101.out 0
       have hfz15_1:=blk_frozen BK101.out 1
       have hfz15_2:=blk_frozen BK101.out 2
       have hfz15_3:=blk_frozen BK101.out 3
       have hfz15_4:=blk_frozen BK101.out 4
       go_wp2
       repeat (go_quiet (fail);try go_wp2)
       go_meet
       case rel=>exact ⟨_,(true),(by first | rfl | (simp;done) | (simp [*];done)),H',⟨by have:=HJ1.out;first | omega | exact Nat.le_refl _⟩,⟨by (with_reducible repeat (first | refine blk_drewN ?_ _ | refine blk_drew ?_ | refine blk_alloc ?_ _));exact BK101.out⟩,⟨by repeat (first | (with_reducible first | exact HB.out | apply below_alloc | apply pw_below_drewN | apply below_drew1 | refine below_set ?_ GE101.out) | exact HB.out)⟩⟩
     ·rw [if_neg c12] at H
      have c12b0 : ((l0_2.length : Int) == (wrap64 (a0_0 * a0_1))) = false:=beq_eq_false_iff_ne.mpr c12
      have c12b1 : ((l0_2.length : Int) != (wrap64 (a0_0 * a0_1))) = true:=bne_iff_ne.mpr c12
      (first | rw [c12b0] | (simp only [i64_w,i32_w];rw [c12b0]) | skip)
      have H':=Aside0.mk H
      clear H
      have hcz16_0 : wc.cell? ⟨gb101,0,none⟩ = some (.int .i64 a0_0):=(blk_cell BK101.out 0).trans rfl
      have hcz16_1 : wc.cell? ⟨gb101,1,none⟩ = some (.int .i64 a0_1):=(blk_cell BK101.out 1).trans rfl
      have hcz16_2 : wc.cell? ⟨gb101,2,none⟩ = some (.slice A0_2 l0_2.length c0_2):=(blk_cell BK101.out 2).trans rfl
      have hcz16_3 : wc.cell? ⟨gb101,3,none⟩ = some (.slice A0_3 l0_3.length c0_3):=(blk_cell BK101.out 3).trans rfl
      have hcz16_4 : wc.cell? ⟨gb101,4,none⟩ = some (.slice A0_4 l0_4.length c0_4):=(blk_cell BK101.out 4).trans rfl
      have hfz16_0:=blk_frozen BK101.out 0
      have hfz16_1:=blk_frozen BK101.out 1
      have hfz16_2:=blk_frozen BK101.out 2
      have hfz16_3:=blk_frozen BK101.out 3
      have hfz16_4:=blk_frozen BK101.out 4
      go_wp2
      repeat (go_quiet (fail);try go_wp2)
      go_meet
      case rel=>exact ⟨_,(true),(by first | rfl | (simp;done) | (simp [*];done)),H',⟨by have:=HJ1.out;first | omega | exact Nat.le_refl _⟩,⟨by (with_reducible repeat (first | refine blk_drewN ?_ _ | refine blk_drew ?_ | refine blk_alloc ?_ _));exact BK101.out⟩,⟨by repeat (first | (with_reducible first | exact HB.out | apply below_alloc | apply pw_below_drewN | apply below_drew1 | refine below_set ?_ GE101.out) | exact HB.out)⟩⟩
    case rest =>
     clear HC10
     try clear c1
     try clear p2
     try clear c3
     try clear c5
     try clear p6
     try clear c9
     try clear c12
     try clear c12b0
     try clear c12b1
     try clear c13
     try clear c13b0
     try clear c13b1
     try clear hcz11_0
     try clear hcz11_1
     try clear hcz11_2
     try clear hcz11_3
     try clear hcz11_4
     try clear hcz14_0
     try clear hcz14_1
     try clear hcz14_2
     try clear hcz14_3
     try clear hcz14_4
     try clear hcz15_0
     try clear hcz15_1
     try clear hcz15_2
     try clear hcz15_3
     try clear hcz15_4
     try clear hcz16_0
     try clear hcz16_1
     try clear hcz16_2
     try clear hcz16_3
     try clear hcz16_4
     try clear hcz7_0
     try clear hcz7_1
     try clear hcz7_2
     try clear hcz7_3
     try clear hcz7_4
     try clear hcz8_0
     try clear hcz8_1
     try clear hcz8_2
     try clear hcz8_3
     try clear hcz8_4
     try clear hfz11_0
     try clear hfz11_1
     try clear hfz11_2
     try clear hfz11_3
     try clear hfz11_4
     try clear hfz14_0
     try clear hfz14_1
     try clear hfz14_2
     try clear hfz14_3
     try clear hfz14_4
     try clear hfz15_0
     try clear hfz15_1
     try clear hfz15_2
     try clear hfz15_3
     try clear hfz15_4
     try clear hfz16_0
     try clear hfz16_1
     try clear hfz16_2
     try clear hfz16_3
     try clear hfz16_4
     try clear hfz7_0
     try clear hfz7_1
     try clear hfz7_2
     try clear hfz7_3
     try clear hfz7_4
     try clear hfz8_0
     try clear hfz8_1
     try clear hfz8_2
     try clear hfz8_3
     try clear hfz8_4
     try clear p2
     obtain ⟨kq,x41_9,rfl,HA,HJ9,BK101,HB⟩:=hcut
     cases kq with
     | zero=>exact absurd HA.out (by simp [grid_Check.j1])
     | succ kj9 =>
      have H:=HA.out
      clear HA
      simp only [grid_Check.j1] at H
      by_cases c17 : x41_9 = true
      ·subst c17
       have H1 : (some 51) = some r:=by rw [if_pos rfl] at H;exact H
       clear H
       have H:=H1
       clear H1
       obtain rfl:=Option.some.inj H
       go_wp2
       repeat (go_quiet (fail);try go_wp2)
       go_ret
       exact ⟨by first | rfl | (simp [errW_none,errW_some] <;> rfl) | (simp [*,errW_none,errW_some] <;> rfl) | (exfalso;contradiction),by repeat (first | (with_reducible first | exact HB.out | apply below_alloc | apply pw_below_drewN | apply below_drew1 | refine below_set ?_ GE101.out) | exact HB.out)⟩
      ·replace c17:=Bool.eq_false_iff.mpr c17
       subst c17
       have H1 : (grid_Check.l0 kj9 l0_2 (l0_2.length : Int) 0 a0_0 a0_1 l0_2 l0_3 l0_4) = some r:=by rw [if_neg (show ¬ (false = true) by decide)] at H;exact H
       clear H
       have H:=H1
       clear H1
       have H':=Aside0.mk H
       clear H
       have hcz18_0 : wc.cell? ⟨gb101,0,none⟩ = some (.int .i64 a0_0):=(blk_cell BK101.out 0).trans rfl
       have hcz18_1 : wc.cell? ⟨gb101,1,none⟩ = some (.int .i64 a0_1):=(blk_cell BK101.out 1).trans rfl
       have hcz18_2 : wc.cell? ⟨gb101,2,none⟩ = some (.slice A0_2 l0_2.length c0_2):=(blk_cell BK101.out 2).trans rfl
       have hcz18_3 : wc.cell? ⟨gb101,3,none⟩ = some (.slice A0_3 l0_3.length c0_3):=(blk_cell BK101.out 3).trans rfl
       have hcz18_4 : wc.cell? ⟨gb101,4,none⟩ = some (.slice A0_4 l0_4.length c0_4):=(blk_cell BK101.out 4).trans rfl
       have hfz18_0:=blk_frozen BK101.out 0
       have hfz18_1:=blk_frozen BK101.out 1
       have hfz18_2:=blk_frozen BK101.out 2
       have hfz18_3:=blk_frozen BK101.out 3
       have hfz18_4:=blk_frozen BK101.out 4
       go_wp2
       repeat (go_quiet (fail);try go_wp2)
       go_loopg [45] kj9 (fun kq v45 w'=>∃ (x45_3 : Int),v45 = .int .i64 x45_3 ∧ Aside0 (grid_Check.l0 kq l0_2 (l0_2.length : Int) x45_3 a0_0 a0_1 l0_2 l0_3 l0_4 = some r) ∧ Aside0 (kq ≤ kj9) ∧ Aside0 (w'.heap[gb101]? = some (.cells #[.int .i64 a0_0,.int .i64 a0_1,(.slice A0_2 l0_2.length c0_2),(.slice A0_3 l0_3.length c0_3),(.slice A0_4 l0_4.length c0_4)] 24 (0,0))) ∧ Aside0 (Below w.heap.size w w'))
       case atStart=>exact ⟨(0),(by first | rfl | (simp;done) | (simp [*];done)),H',⟨Nat.le_refl _⟩,⟨by (with_reducible repeat (first | refine blk_drewN ?_ _ | refine blk_drew ?_ | refine blk_alloc ?_ _));exact BK101.out⟩,⟨by repeat (first | (with_reducible first | exact HB.out | apply below_alloc | apply pw_below_drewN | apply below_drew1 | refine below_set ?_ GE101.out) | exact HB.out)⟩⟩
       case round =>
        clear H'
        try clear c1
        try clear p2
        try clear c3
        try clear c5
        try clear p6
        try clear c9
        try clear c12
        try clear c12b0
        try clear c12b1
        try clear c13
        try clear c13b0
        try clear c13b1
        try clear c17
        try clear hcz11_0
        try clear hcz11_1
        try clear hcz11_2
        try clear hcz11_3
        try clear hcz11_4
        try clear hcz14_0
        try clear hcz14_1
        try clear hcz14_2
        try clear hcz14_3
        try clear hcz14_4
        try clear hcz15_0
        try clear hcz15_1
        try clear hcz15_2
        try clear hcz15_3
        try clear hcz15_4
        try clear hcz16_0
        try clear hcz16_1
        try clear hcz16_2
        try clear hcz16_3
        try clear hcz16_4
        try clear hcz18_0
        try clear hcz18_1
        try clear hcz18_2
        try clear hcz18_3
        try clear hcz18_4
        try clear hcz7_0
        try clear hcz7_1
        try clear hcz7_2
        try clear hcz7_3
        try clear hcz7_4
        try clear hcz8_0
        try clear hcz8_1
        try clear hcz8_2
        try clear hcz8_3
        try clear hcz8_4
        try clear hfz11_0
        try clear hfz11_1
        try clear hfz11_2
        try clear hfz11_3
        try clear hfz11_4
        try clear hfz14_0
        try clear hfz14_1
        try clear hfz14_2
        try clear hfz14_3
        try clear hfz14_4
        try clear hfz15_0
        try clear hfz15_1
        try clear hfz15_2
        try clear hfz15_3
        try clear hfz15_4
        try clear hfz16_0
        try clear hfz16_1
        try clear hfz16_2
        try clear hfz16_3
        try clear hfz16_4
        try clear hfz18_0
        try clear hfz18_1
        try clear hfz18_2
        try clear hfz18_3
        try clear hfz18_4
        try clear hfz7_0
        try clear hfz7_1
        try clear hfz7_2
        try clear hfz7_3
        try clear hfz7_4
        try clear hfz8_0
        try clear hfz8_1
        try clear hfz8_2
        try clear hfz8_3
        try clear hfz8_4
        try clear p2
        try clear p6
        obtain ⟨x45_3,rfl,HA,HK3,BK101,HB⟩:=hrel
        cases gk with
        | zero=>exact absurd HA.out (by simp [grid_Check.l0])
        | succ k3 =>
         have H:=HA.out
         clear HA
         simp only [grid_Check.l0] at H
         by_cases c19 : x45_3 < (l0_2.length : Int)
         ·rw [if_pos c19] at H
          have c19b0 : decide (x45_3 < (l0_2.length : Int)) = true:=decide_eq_true c19
          clear c19
          by_cases c20 : 0 ≤ x45_3
          ·rw [if_pos c20] at H
           have c20b0 : decide (0 ≤ x45_3) = true:=decide_eq_true c20
           clear c20
           by_cases c21 : x45_3 < (l0_2.length : Int)
           ·rw [if_pos c21] at H
            have c21b0 : decide (x45_3 < (l0_2.length : Int)) = true:=decide_eq_true c21
            clear c21
            by_cases c22 : a0_1 = 0
            ·rw [if_pos c22] at H
             exact absurd H (by simp)
            ·rw [if_neg c22] at H
             have c22b0 : (a0_1 == 0) = false:=beq_eq_false_iff_ne.mpr c22
             have c22b1 : (a0_1 != 0) = true:=bne_iff_ne.mpr c22
             by_cases c23 : x45_3 < (l0_3.length : Int)
             ·rw [if_pos c23] at H
              have c23b0 : decide (x45_3 < (l0_3.length : Int)) = true:=decide_eq_true c23
              clear c23
              obtain ⟨bq24,hbq24⟩ : ∃ b_ : Bool,b_ = (rdOf false l0_3 x45_3):=⟨_,rfl⟩
              replace H : (if bq24 = true then (if rdOf false l0_2 x45_3 = true then (some 52) else (if (Int.tmod x45_3 a0_1) = (wrap64 (a0_1 - 1)) then (some 52) else (if 0 ≤ (wrap64 (x45_3 + 1)) then (if (wrap64 (x45_3 + 1)) < (l0_2.length : Int) then (if rdOf false l0_2 (wrap64 (x45_3 + 1)) = true then (some 52) else (if x45_3 < (l0_4.length : Int) then (if rdOf false l0_4 x45_3 = true then (if (wrap64 (Int.tdiv x45_3 a0_1)) = (wrap64 (a0_0 - 1)) then (some 52) else (if 0 ≤ (wrap64 (x45_3 + a0_1)) then (if (wrap64 (x45_3 + a0_1)) < (l0_2.length : Int) then (if rdOf false l0_2 (wrap64 (x45_3 + a0_1)) = true then (some 52) else (grid_Check.l0 k3 l0_2 (l0_2.length : Int) (wrap64 (x45_3 + 1)) a0_0 a0_1 l0_2 l0_3 l0_4)) else (none)) else (none))) else (grid_Check.l0 k3 l0_2 (l0_2.length : Int) (wrap64 (x45_3 + 1)) a0_0 a0_1 l0_2 l0_3 l0_4)) else (none))) else (none)) else (none)))) else (if x45_3 < (l0_4.length : Int) then (if rdOf false l0_4 x45_3 = true then (if rdOf false l0_2 x45_3 = true then (some 52) else (if (wrap64 (Int.tdiv x45_3 a0_1)) = (wrap64 (a0_0 - 1)) then (some 52) else (if 0 ≤ (wrap64 (x45_3 + a0_1)) then (if (wrap64 (x45_3 + a0_1)) < (l0_2.length : Int) then (if rdOf false l0_2 (wrap64 (x45_3 + a0_1)) = true then (some 52) else (grid_Check.l0 k3 l0_2 (l0_2.length : Int) (wrap64 (x45_3 + 1)) a0_0 a0_1 l0_2 l0_3 l0_4)) else (none)) else (none)))) else (grid_Check.l0 k3 l0_2 (l0_2.length : Int) (wrap64 (x45_3 + 1)) a0_0 a0_1 l0_2 l0_3 l0_4)) else (none))) = some r:=by rw [← hbq24] at H;exact H
              have Nbq24:=Aside0.mk hbq24
              clear hbq24
              by_cases c25 : bq24 = true
              ·subst c25
               have H1 : (if rdOf false l0_2 x45_3 = true then (some 52) else (if (Int.tmod x45_3 a0_1) = (wrap64 (a0_1 - 1)) then (some 52) else (if 0 ≤ (wrap64 (x45_3 + 1)) then (if (wrap64 (x45_3 + 1)) < (l0_2.length : Int) then (if rdOf false l0_2 (wrap64 (x45_3 + 1)) = true then (some 52) else (if x45_3 < (l0_4.length : Int) then (if rdOf false l0_4 x45_3 = true then (if (wrap64 (Int.tdiv x45_3 a0_1)) = (wrap64 (a0_0 - 1)) then (some 52) else (if 0 ≤ (wrap64 (x45_3 + a0_1)) then (if (wrap64 (x45_3 + a0_1)) < (l0_2.length : Int) then (if rdOf false l0_2 (wrap64 (x45_3 + a0_1)) = true then (some 52) else (grid_Check.l0 k3 l0_2 (l0_2.length : Int) (wrap64 (x45_3 + 1)) a0_0 a0_1 l0_2 l0_3 l0_4)) else (none)) else (none))) else (grid_Check.l0 k3 l0_2 (l0_2.length : Int) (wrap64 (x45_3 + 1)) a0_0 a0_1 l0_2 l0_3 l0_4)) else (none))) else (none)) else (none)))) = some r:=by rw [if_pos rfl] at H;exact H
               clear H
               have H:=H1
               clear H1
               obtain ⟨bq26,hbq26⟩ : ∃ b_ : Bool,b_ = (rdOf false l0_2 x45_3):=⟨_,rfl⟩
               replace H : (if bq26 = true then (some 52) else (if (Int.tmod x45_3 a0_1) = (wrap64 (a0_1 - 1)) then (some 52) else (if 0 ≤ (wrap64 (x45_3 + 1)) then (if (wrap64 (x45_3 + 1)) < (l0_2.length : Int) then (if rdOf false l0_2 (wrap64 (x45_3 + 1)) = true then (some 52) else (if x45_3 < (l0_4.length : Int) then (if rdOf false l0_4 x45_3 = true then (if (wrap64 (Int.tdiv x45_3 a0_1)) = (wrap64 (a0_0 - 1)) then (some 52) else (if 0 ≤ (wrap64 (x45_3 + a0_1)) then (if (wrap64 (x45_3 + a0_1)) < (l0_2.length : Int) then (if rdOf false l0_2 (wrap64 (x45_3 + a0_1)) = true then (some 52) else (grid_Check.l0 k3 l0_2 (l0_2.length : Int) (wrap64 (x45_3 + 1)) a0_0 a0_1 l0_2 l0_3 l0_4)) else (none)) else (none))) else (grid_Check.l0 k3 l0_2 (l0_2.length : Int) (wrap64 (x45_3 + 1)) a0_0 a0_1 l0_2 l0_3 l0_4)) else (none))) else (none)) else (none)))) = some r:=by rw [← hbq26] at H;exact H
               have Nbq26:=Aside0.mk hbq26
               clear hbq26
               by_cases c27 : bq26 = true
               ·subst c27
                have H1 : (some 52) = some r:=by rw [if_pos rfl] at H;exact H
                clear H
                have H:=H1
                clear H1
                obtain rfl:=Option.some.inj H
                have p104 : 0 ≤ (x45_3 : Int):=of_decide_eq_true (by first | (with_reducible assumption) | assumption)
                have q104 : x45_3 < (l0_2.length : Int):=of_decide_eq_true (by first | (with_reducible assumption) | assumption)
                obtain ⟨ad104,e104,hx104_0⟩:=Kd.at_bool HR0_2.out x45_3 p104 q104
                (try rw [← Nbq24.out] at hx104_0)
                (try rw [← Nbq26.out] at hx104_0)
                cases e104
                replace hx104_0:=(HB.out.cell (World.block_lt_of_cell? w _ hx104_0)).trans hx104_0
                replace p104:=eq_true p104
                replace q104:=eq_true q104
                have hcz28_0 : wr.cell? ⟨gb101,0,none⟩ = some (.int .i64 a0_0):=(blk_cell BK101.out 0).trans rfl
                have hcz28_1 : wr.cell? ⟨gb101,1,none⟩ = some (.int .i64 a0_1):=(blk_cell BK101.out 1).trans rfl
                have hcz28_2 : wr.cell? ⟨gb101,2,none⟩ = some (.slice (some ad104) l0_2.length c0_2):=(blk_cell BK101.out 2).trans rfl
                have hcz28_3 : wr.cell? ⟨gb101,3,none⟩ = some (.slice A0_3 l0_3.length c0_3):=(blk_cell BK101.out 3).trans rfl
                have hcz28_4 : wr.cell? ⟨gb101,4,none⟩ = some (.slice A0_4 l0_4.length c0_4):=(blk_cell BK101.out 4).trans rfl
                have hfz28_0:=blk_frozen BK101.out 0
                have hfz28_1:=blk_frozen BK101.out 1
                have hfz28_2:=blk_frozen BK101.out 2
                have hfz28_3:=blk_frozen BK101.out 3
                have hfz28_4:=blk_frozen BK101.out 4
                have p105 : 0 ≤ (x45_3 : Int):=of_decide_eq_true (by first | (with_reducible assumption) | assumption)
                have q105 : x45_3 < (l0_3.length : Int):=of_decide_eq_true (by first | (with_reducible assumption) | assumption)
                obtain ⟨ad105,e105,hx105_0⟩:=Kd.at_bool HR0_3.out x45_3 p105 q105
                (try rw [← Nbq24.out] at hx105_0)
                (try rw [← Nbq26.out] at hx105_0)
                cases e105
                replace hx105_0:=(HB.out.cell (World.block_lt_of_cell? w _ hx105_0)).trans hx105_0
                replace p105:=eq_true p105
                replace q105:=eq_true q105
                go_wp2
                repeat (go_quiet (fail);try go_wp2)
                go_ret
                exact ⟨by first | rfl | (simp [errW_none,errW_some] <;> rfl) | (simp [*,errW_none,errW_some] <;> rfl) | (exfalso;contradiction),by repeat (first | (with_reducible first | exact HB.out | apply below_alloc | apply pw_below_drewN | apply below_drew1 | refine below_set ?_ GE101.out) | exact HB.out)⟩
               ·replace c27:=Bool.eq_false_iff.mpr c27
                subst c27
                have H1 : (if (Int.tmod x45_3 a0_1) = (wrap64 (a0_1 - 1)) then (some 52) else (if 0 ≤ (wrap64 (x45_3 + 1)) then (if (wrap64 (x45_3 + 1)) < (l0_2.length : Int) then (if rdOf false l0_2 (wrap64 (x45_3 + 1)) = true then (some 52) else (if x45_3 < (l0_4.length : Int) then (if rdOf false l0_4 x45_3 = true then (if (wrap64 (Int.tdiv x45_3 a0_1)) = (wrap64 (a0_0 - 1)) then (some 52) else (if 0 ≤ (wrap64 (x45_3 + a0_1)) then (if (wrap64 (x45_3 + a0_1)) < (l0_2.length : Int) then (if rdOf false l0_2 (wrap64 (x45_3 + a0_1)) = true then (some 52) else (grid_Check.l0 k3 l0_2 (l0_2.length : Int) (wrap64 (x45_3 + 1)) a0_0 a0_1 l0_2 l0_3 l0_4)) else (none)) else (none))) else (grid_Check.l0 k3 l0_2 (l0_2.length : Int) (wrap64 (x45_3 + 1)) a0_0 a0_1 l0_2 l0_3 l0_4)) else (none))) else (none)) else (none))) = some r:=by rw [if_neg (show ¬ (false = true) by decide)] at H;exact H
                clear H
                have H:=H1
                clear H1
                by_cases c29 : (Int.tmod x45_3 a0_1) = (wrap64 (a0_1 - 1))
                ·rw [if_pos c29] at H
                 have c29b0 : ((Int.tmod x45_3 a0_1) == (wrap64 (a0_1 - 1))) = true:=beq_iff_eq.mpr c29
                 have c29b1 : ((Int.tmod x45_3 a0_1) != (wrap64 (a0_1 - 1))) = false:=bne_eq_false_iff_eq.mpr c29
                 clear c29
                 obtain rfl:=Option.some.inj H
                 have p104 : 0 ≤ (x45_3 : Int):=of_decide_eq_true (by first | (with_reducible assumption) | assumption)
                 have q104 : x45_3 < (l0_2.length : Int):=of_decide_eq_true (by first | (with_reducible assumption) | assumption)
                 obtain ⟨ad104,e104,hx104_0⟩:=Kd.at_bool HR0_2.out x45_3 p104 q104
                 (try rw [← Nbq24.out] at hx104_0)
                 (try rw [← Nbq26.out] at hx104_0)
                 cases e104
                 replace hx104_0:=(HB.out.cell (World.block_lt_of_cell? w _ hx104_0)).trans hx104_0
                 replace p104:=eq_true p104
                 replace q104:=eq_true q104
                 have hcz30_0 : wr.cell? ⟨gb101,0,none⟩ = some (.int .i64 a0_0):=(blk_cell BK101.out 0).trans rfl
                 have hcz30_1 : wr.cell? ⟨gb101,1,none⟩ = some (.int .i64 a0_1):=(blk_cell BK101.out 1).trans rfl
                 have hcz30_2 : wr.cell? ⟨gb101,2,none⟩ = some (.slice (some ad104) l0_2.length c0_2):=(blk_cell BK101.out 2).trans rfl
                 have hcz30_3 : wr.cell? ⟨gb101,3,none⟩ = some (.slice A0_3 l0_3.length c0_3):=(blk_cell BK101.out 3).trans rfl
                 have hcz30_4 : wr.cell? ⟨gb101,4,none⟩ = some (.slice A0_4 l0_4.length c0_4):=(blk_cell BK101.out 4).trans rfl
                 have hfz30_0:=blk_frozen BK101.out 0
                 have hfz30_1:=blk_frozen BK101.out 1
                 have hfz30_2:=blk_frozen BK101.out 2
                 have hfz30_3:=blk_frozen BK101.out 3
                 have hfz30_4:=blk_frozen BK101.out 4
                 have p105 : 0 ≤ (x45_3 : Int):=of_decide_eq_true (by first | (with_reducible assumption) | assumption)
                 have q105 : x45_3 < (l0_3.length : Int):=of_decide_eq_true (by first | (with_reducible assumption) | assumption)
                 obtain ⟨ad105,e105,hx105_0⟩:=Kd.at_bool HR0_3.out x45_3 p105 q105
                 (try rw [← Nbq24.out] at hx105_0)
                 (try rw [← Nbq26.out] at hx105_0)
                 cases e105
                 replace hx105_0:=(HB.out.cell (World.block_lt_of_cell? w _ hx105_0)).trans hx105_0
                 replace p105:=eq_true p105
                 replace q105:=eq_true q105
                 go_wp2
                 repeat (go_quiet (fail);try go_wp2)
                 go_ret
                 exact ⟨by first | rfl | (simp [errW_none,errW_some] <;> rfl) | (simp [*,errW_none,errW_some] <;> rfl) | (exfalso;contradiction),by repeat (first | (with_reducible first | exact HB.out | apply below_alloc | apply pw_below_drewN | apply below_drew1 | refine below_set ?_ GE101.out) | exact HB.out)⟩
                ·rw [if_neg c29] at H
                 have c29b0 : ((Int.tmod x45_3 a0_1) == (wrap64 (a0_1 - 1))) = false:=beq_eq_false_iff_ne.mpr c29
                 have c29b1 : ((Int.tmod x45_3 a0_1) != (wrap64 (a0_1 - 1))) = true:=bne_iff_ne.mpr c29
                 obtain ⟨ji31,hji31⟩ : ∃ j_ : Int,(wrap64 (x45_3 + 1)) = j_:=⟨_,rfl⟩
                 replace H : (if 0 ≤ (ji31) then (if (ji31) < (l0_2.length : Int) then (if rdOf false l0_2 (ji31) = true then (some 52) else (if x45_3 < (l0_4.length : Int) then (if rdOf false l0_4 x45_3 = true then (if (wrap64 (Int.tdiv x45_3 a0_1)) = (wrap64 (a0_0 - 1)) then (some 52) else (if 0 ≤ (wrap64 (x45_3 + a0_1)) then (if (wrap64 (x45_3 + a0_1)) < (l0_2.length : Int) then (if rdOf false l0_2 (wrap64 (x45_3 + a0_1)) = true then (some 52) else (grid_Check.l0 k3 l0_2 (l0_2.length : Int) ji31 a0_0 a0_1 l0_2 l0_3 l0_4)) else (none)) else (none))) else (grid_Check.l0 k3 l0_2 (l0_2.length : Int) ji31 a0_0 a0_1 l0_2 l0_3 l0_4)) else (none))) else (none)) else (none)) = some r:=by first | (rw [hji31] at H;exact H) | (simp only [hji31] at H ⊢;exact H)
                 have hji31w : (IntKind.i64.wrap (x45_3 + 1)) = ji31:=(i64_w _).trans hji31
                 by_cases c32 : 0 ≤ (ji31)
                 ·rw [if_pos c32] at H
                  have c32b0 : decide (0 ≤ (ji31)) = true:=decide_eq_true c32
                  clear c32
                  by_cases c33 : (ji31) < (l0_2.length : Int)
                  ·rw [if_pos c33] at H
                   have c33b0 : decide ((ji31) < (l0_2.length : Int)) = true:=decide_eq_true c33
                   clear c33
                   obtain ⟨bq34,hbq34⟩ : ∃ b_ : Bool,b_ = (rdOf false l0_2 (ji31)):=⟨_,rfl⟩
                   replace H : (if bq34 = true then (some 52) else (if x45_3 < (l0_4.length : Int) then (if rdOf false l0_4 x45_3 = true then (if (wrap64 (Int.tdiv x45_3 a0_1)) = (wrap64 (a0_0 - 1)) then (some 52) else (if 0 ≤ (wrap64 (x45_3 + a0_1)) then (if (wrap64 (x45_3 + a0_1)) < (l0_2.length : Int) then (if rdOf false l0_2 (wrap64 (x45_3 + a0_1)) = true then (some 52) else (grid_Check.l0 k3 l0_2 (l0_2.length : Int) ji31 a0_0 a0_1 l0_2 l0_3 l0_4)) else (none)) else (none))) else (grid_Check.l0 k3 l0_2 (l0_2.length : Int) ji31 a0_0 a0_1 l0_2 l0_3 l0_4)) else (none))) = some r:=by rw [← hbq34] at H;exact H
                   have Nbq34:=Aside0.mk hbq34
                   clear hbq34
                   by_cases c35 : bq34 = true
                   ·subst c35
                    have H1 : (some 52) = some r:=by rw [if_pos rfl] at H;exact H
                    clear H
                    have H:=H1
                    clear H1
                    obtain rfl:=Option.some.inj H
                    have p104 : 0 ≤ (x45_3 : Int):=of_decide_eq_true (by first | (with_reducible assumption) | assumption)
                    have q104 : x45_3 < (l0_2.length : Int):=of_decide_eq_true (by first | (with_reducible assumption) | assumption)
                    obtain ⟨ad104,e104,hx104_0⟩:=Kd.at_bool HR0_2.out x45_3 p104 q104
                    (try rw [← Nbq24.out] at hx104_0)
                    (try rw [← Nbq26.out] at hx104_0)
                    (try rw [← Nbq34.out] at hx104_0)
                    cases e104
                    replace hx104_0:=(HB.out.cell (World.block_lt_of_cell? w _ hx104_0)).trans hx104_0
                    replace p104:=eq_true p104
                    replace q104:=eq_true q104
                    have hcz36_0 : wr.cell? ⟨gb101,0,none⟩ = some (.int .i64 a0_0):=(blk_cell BK101.out 0).trans rfl
                    have hcz36_1 : wr.cell? ⟨gb101,1,none⟩ = some (.int .i64 a0_1):=(blk_cell BK101.out 1).trans rfl
                    have hcz36_2 : wr.cell? ⟨gb101,2,none⟩ = some (.slice (some ad104) l0_2.length c0_2):=(blk_cell BK101.out 2).trans rfl
                    have hcz36_3 : wr.cell? ⟨gb101,3,none⟩ = some (.slice A0_3 l0_3.length c0_3):=(blk_cell BK101.out 3).trans rfl
                    have hcz36_4 : wr.cell? ⟨gb101,4,none⟩ = some (.slice A0_4 l0_4.length c0_4):=(blk_cell BK101.out 4).trans rfl
                    have hfz36_0:=blk_frozen BK101.out 0
                    have hfz36_1:=blk_frozen BK101.out 1
                    have hfz36_2:=blk_frozen BK101.out 2
                    have hfz36_3:=blk_frozen BK101.out 3
                    have hfz36_4:=blk_frozen BK101.out 4
                    have p105 : 0 ≤ (x45_3 : Int):=of_decide_eq_true (by first | (with_reducible assumption) | assumption)
                    have q105 : x45_3 < (l0_3.length : Int):=of_decide_eq_true (by first | (with_reducible assumption) | assumption)
                    obtain ⟨ad105,e105,hx105_0⟩:=Kd.at_bool HR0_3.out x45_3 p105 q105
                    (try rw [← Nbq24.out] at hx105_0)
                    (try rw [← Nbq26.out] at hx105_0)
                    (try rw [← Nbq34.out] at hx105_0)
                    cases e105
                    replace hx105_0:=(HB.out.cell (World.block_lt_of_cell? w _ hx105_0)).trans hx105_0
                    replace p105:=eq_true p105
                    replace q105:=eq_true q105
                    have p106 : 0 ≤ ((ji31) : Int):=of_decide_eq_true (by first | (with_reducible assumption) | assumption)
                    have q106 : (ji31) < (l0_2.length : Int):=of_decide_eq_true (by first | (with_reducible assumption) | assumption)
                    obtain ⟨ad106,e106,hx106_0⟩:=Kd.at_bool HR0_2.out (ji31) p106 q106
                    (try rw [← Nbq24.out] at hx106_0)
                    (try rw [← Nbq26.out] at hx106_0)
                    (try rw [← Nbq34.out] at hx106_0)
                    obtain rfl : ad104 = ad106:=(by injection e106)
                    replace hx106_0:=(HB.out.cell (World.block_lt_of_cell? w _ hx106_0)).trans hx106_0
                    replace p106:=eq_true p106
                    replace q106:=eq_true q106
                    go_wp2
                    repeat (go_quiet (fail);try go_wp2)
                    go_ret
                    exact ⟨by first | rfl | (simp [errW_none,errW_some] <;> rfl) | (simp only [← hji31];first | rfl | (simp [errW_none,errW_some] <;> rfl)) | (simp [*,errW_none,errW_some] <;> rfl) | (exfalso;contradiction),by repeat (first | (with_reducible first | exact HB.out | apply below_alloc | apply pw_below_drewN | apply below_drew1 | refine below_set ?_ GE101.out) | exact HB.out)⟩
                   ·replace c35:=Bool.eq_false_iff.mpr c35
                    subst c35
                    have H1 : (if x45_3 < (l0_4.length : Int) then (if rdOf false l0_4 x45_3 = true then (if (wrap64 (Int.tdiv x45_3 a0_1)) = (wrap64 (a0_0 - 1)) then (some 52) else (if 0 ≤ (wrap64 (x45_3 + a0_1)) then (if (wrap64 (x45_3 + a0_1)) < (l0_2.length : Int) then (if rdOf false l0_2 (wrap64 (x45_3 + a0_1)) = true then (some 52) else (grid_Check.l0 k3 l0_2 (l0_2.length : Int) ji31 a0_0 a0_1 l0_2 l0_3 l0_4)) else (none)) else (none))) else (grid_Check.l0 k3 l0_2 (l0_2.length : Int) ji31 a0_0 a0_1 l0_2 l0_3 l0_4)) else (none)) = some r:=by rw [if_neg (show ¬ (false = true) by decide)] at H;exact H
                    clear H
                    have H:=H1
                    clear H1
                    by_cases c37 : x45_3 < (l0_4.length : Int)
                    ·rw [if_pos c37] at H
                     have c37b0 : decide (x45_3 < (l0_4.length : Int)) = true:=decide_eq_true c37
                     clear c37
                     obtain ⟨bq38,hbq38⟩ : ∃ b_ : Bool,b_ = (rdOf false l0_4 x45_3):=⟨_,rfl⟩
                     replace H : (if bq38 = true then (if (wrap64 (Int.tdiv x45_3 a0_1)) = (wrap64 (a0_0 - 1)) then (some 52) else (if 0 ≤ (wrap64 (x45_3 + a0_1)) then (if (wrap64 (x45_3 + a0_1)) < (l0_2.length : Int) then (if rdOf false l0_2 (wrap64 (x45_3 + a0_1)) = true then (some 52) else (grid_Check.l0 k3 l0_2 (l0_2.length : Int) ji31 a0_0 a0_1 l0_2 l0_3 l0_4)) else (none)) else (none))) else (grid_Check.l0 k3 l0_2 (l0_2.length : Int) ji31 a0_0 a0_1 l0_2 l0_3 l0_4)) = some r:=by rw [← hbq38] at H;exact H
                     have Nbq38:=Aside0.mk hbq38
                     clear hbq38
                     by_cases c39 : bq38 = true
                     ·subst c39
                      have H1 : (if (wrap64 (Int.tdiv x45_3 a0_1)) = (wrap64 (a0_0 - 1)) then (some 52) else (if 0 ≤ (wrap64 (x45_3 + a0_1)) then (if (wrap64 (x45_3 + a0_1)) < (l0_2.length : Int) then (if rdOf false l0_2 (wrap64 (x45_3 + a0_1)) = true then (some 52) else (grid_Check.l0 k3 l0_2 (l0_2.length : Int) ji31 a0_0 a0_1 l0_2 l0_3 l0_4)) else (none)) else (none))) = some r:=by rw [if_pos rfl] at H;exact H
                      clear H
                      have H:=H1
                      clear H1
                      by_cases c40 : (wrap64 (Int.tdiv x45_3 a0_1)) = (wrap64 (a0_0 - 1))
                      ·rw [if_pos c40] at H
                       have c40b0 : ((wrap64 (Int.tdiv x45_3 a0_1)) == (wrap64 (a0_0 - 1))) = true:=beq_iff_eq.mpr c40
                       have c40b1 : ((wrap64 (Int.tdiv x45_3 a0_1)) != (wrap64 (a0_0 - 1))) = false:=bne_eq_false_iff_eq.mpr c40
                       clear c40
                       obtain rfl:=Option.some.inj H
                       have p104 : 0 ≤ (x45_3 : Int):=of_decide_eq_true (by first | (with_reducible assumption) | assumption)
                       have q104 : x45_3 < (l0_2.length : Int):=of_decide_eq_true (by first | (with_reducible assumption) | assumption)
                       obtain ⟨ad104,e104,hx104_0⟩:=Kd.at_bool HR0_2.out x45_3 p104 q104
                       (try rw [← Nbq24.out] at hx104_0)
                       (try rw [← Nbq26.out] at hx104_0)
                       (try rw [← Nbq34.out] at hx104_0)
                       (try rw [← Nbq38.out] at hx104_0)
                       cases e104
                       replace hx104_0:=(HB.out.cell (World.block_lt_of_cell? w _ hx104_0)).trans hx104_0
                       replace p104:=eq_true p104
                       replace q104:=eq_true q104
                       have hcz41_0 : wr.cell? ⟨gb101,0,none⟩ = some (.int .i64 a0_0):=(blk_cell BK101.out 0).trans rfl
                       have hcz41_1 : wr.cell? ⟨gb101,1,none⟩ = some (.int .i64 a0_1):=(blk_cell BK101.out 1).trans rfl
                       have hcz41_2 : wr.cell? ⟨gb101,2,none⟩ = some (.slice (some ad104) l0_2.length c0_2):=(blk_cell BK101.out 2).trans rfl
                       have hcz41_3 : wr.cell? ⟨gb101,3,none⟩ = some (.slice A0_3 l0_3.length c0_3):=(blk_cell BK101.out 3).trans rfl
                       have hcz41_4 : wr.cell? ⟨gb101,4,none⟩ = some (.slice A0_4 l0_4.length c0_4):=(blk_cell BK101.out 4).trans rfl
                       have hfz41_0:=blk_frozen BK101.out 0
                       have hfz41_1:=blk_frozen BK101.out 1
                       have hfz41_2:=blk_frozen BK101.out 2
                       have hfz41_3:=blk_frozen BK101.out 3
                       have hfz41_4:=blk_frozen BK101.out 4
                       have p105 : 0 ≤ (x45_3 : Int):=of_decide_eq_true (by first | (with_reducible assumption) | assumption)
                       have q105 : x45_3 < (l0_3.length : Int):=of_decide_eq_true (by first | (with_reducible assumption) | assumption)
                       obtain ⟨ad105,e105,hx105_0⟩:=Kd.at_bool HR0_3.out x45_3 p105 q105
                       (try rw [← Nbq24.out] at hx105_0)
                       (try rw [← Nbq26.out] at hx105_0)
                       (try rw [← Nbq34.out] at hx105_0)
                       (try rw [← Nbq38.out] at hx105_0)
                       cases e105
                       replace hx105_0:=(HB.out.cell (World.block_lt_of_cell? w _ hx105_0)).trans hx105_0
                       replace p105:=eq_true p105
                       replace q105:=eq_true q105
                       have p106 : 0 ≤ ((ji31) : Int):=of_decide_eq_true (by first | (with_reducible assumption) | assumption)
                       have q106 : (ji31) < (l0_2.length : Int):=of_decide_eq_true (by first | (with_reducible assumption) | assumption)
                       obtain ⟨ad106,e106,hx106_0⟩:=Kd.at_bool HR0_2.out (ji31) p106 q106
                       (try rw [← Nbq24.out] at hx106_0)
                       (try rw [← Nbq26.out] at hx106_0)
                       (try rw [← Nbq34.out] at hx106_0)
                       (try rw [← Nbq38.out] at hx106_0)
                       obtain rfl : ad104 = ad106:=(by injection e106)
                       replace hx106_0:=(HB.out.cell (World.block_lt_of_cell? w _ hx106_0)).trans hx106_0
                       replace p106:=eq_true p106
                       replace q106:=eq_true q106
                       have p107 : 0 ≤ (x45_3 : Int):=of_decide_eq_true (by first | (with_reducible assumption) | assumption)
                       have q107 : x45_3 < (l0_4.length : Int):=of_decide_eq_true (by first | (with_reducible assumption) | assumption)
                       obtain ⟨ad107,e107,hx107_0⟩:=Kd.at_bool HR0_4.out x45_3 p107 q107
                       (try rw [← Nbq24.out] at hx107_0)
                       (try rw [← Nbq26.out] at hx107_0)
                       (try rw [← Nbq34.out] at hx107_0)
                       (try rw [← Nbq38.out] at hx107_0)
                       cases e107
                       replace hx107_0:=(HB.out.cell (World.block_lt_of_cell? w _ hx107_0)).trans hx107_0
                       replace p107:=eq_true p107
                       replace q107:=eq_true q107
                       go_wp2
                       repeat (go_quiet (fail);try go_wp2)
                       go_ret
                       exact ⟨by first | rfl | (simp [errW_none,errW_some] <;> rfl) | (simp only [← hji31];first | rfl | (simp [errW_none,errW_some] <;> rfl)) | (simp [*,errW_none,errW_some] <;> rfl) | (exfalso;contradiction),by repeat (first | (with_reducible first | exact HB.out | apply below_alloc | apply pw_below_drewN | apply below_drew1 | refine below_set ?_ GE101.out) | exact HB.out)⟩
                      ·rw [if_neg c40] at H
                       have c40b0 : ((wrap64 (Int.tdiv x45_3 a0_1)) == (wrap64 (a0_0 - 1))) = false:=beq_eq_false_iff_ne.mpr c40
                       have c40b1 : ((wrap64 (Int.tdiv x45_3 a0_1)) != (wrap64 (a0_0 - 1))) = true:=bne_iff_ne.mpr c40
                       obtain ⟨ji42,hji42⟩ : ∃ j_ : Int,(wrap64 (x45_3 + a0_1)) = j_:=⟨_,rfl⟩
                       replace H : (if 0 ≤ (ji42) then (if (ji42) < (l0_2.length : Int) then (if rdOf false l0_2 (ji42) = true then (some 52) else (grid_Check.l0 k3 l0_2 (l0_2.length : Int) ji31 a0_0 a0_1 l0_2 l0_3 l0_4)) else (none)) else (none)) = some r:=by first | (rw [hji42] at H;exact H) | (simp only [hji42] at H ⊢;exact H)
                       have hji42w : (IntKind.i64.wrap (x45_3 + a0_1)) = ji42:=(i64_w _).trans hji42
                       by_cases c43 : 0 ≤ (ji42)
                       ·rw [if_pos c43] at H
                        have c43b0 : decide (0 ≤ (ji42)) = true:=decide_eq_true c43
                        clear c43
                        by_cases c44 : (ji42) < (l0_2.length : Int)
                        ·rw [if_pos c44] at H
                         have c44b0 : decide ((ji42) < (l0_2.length : Int)) = true:=decide_eq_true c44
                         clear c44
                         obtain ⟨bq45,hbq45⟩ : ∃ b_ : Bool,b_ = (rdOf false l0_2 (ji42)):=⟨_,rfl⟩
                         replace H : (if bq45 = true then (some 52) else (grid_Check.l0 k3 l0_2 (l0_2.length : Int) ji31 a0_0 a0_1 l0_2 l0_3 l0_4)) = some r:=by rw [← hbq45] at H;exact H
                         have Nbq45:=Aside0.mk hbq45
                         clear hbq45
                         by_cases c46 : bq45 = true
                         ·subst c46
                          have H1 : (some 52) = some r:=by rw [if_pos rfl] at H;exact H
                          clear H
                          have H:=H1
                          clear H1
                          obtain rfl:=Option.some.inj H
                          have p104 : 0 ≤ (x45_3 : Int):=of_decide_eq_true (by first | (with_reducible assumption) | assumption)
                          have q104 : x45_3 < (l0_2.length : Int):=of_decide_eq_true (by first | (with_reducible assumption) | assumption)
                          obtain ⟨ad104,e104,hx104_0⟩:=Kd.at_bool HR0_2.out x45_3 p104 q104
                          (try rw [← Nbq24.out] at hx104_0)
                          (try rw [← Nbq26.out] at hx104_0)
                          (try rw [← Nbq34.out] at hx104_0)
                          (try rw [← Nbq38.out] at hx104_0)
                          (try rw [← Nbq45.out] at hx104_0)
                          cases e104
                          replace hx104_0:=(HB.out.cell (World.block_lt_of_cell? w _ hx104_0)).trans hx104_0
                          replace p104:=eq_true p104
                          replace q104:=eq_true q104
                          have hcz47_0 : wr.cell? ⟨gb101,0,none⟩ = some (.int .i64 a0_0):=(blk_cell BK101.out 0).trans rfl
                          have hcz47_1 : wr.cell? ⟨gb101,1,none⟩ = some (.int .i64 a0_1):=(blk_cell BK101.out 1).trans rfl
                          have hcz47_2 : wr.cell? ⟨gb101,2,none⟩ = some (.slice (some ad104) l0_2.length c0_2):=(blk_cell BK101.out 2).trans rfl
                          have hcz47_3 : wr.cell? ⟨gb101,3,none⟩ = some (.slice A0_3 l0_3.length c0_3):=(blk_cell BK101.out 3).trans rfl
                          have hcz47_4 : wr.cell? ⟨gb101,4,none⟩ = some (.slice A0_4 l0_4.length c0_4):=(blk_cell BK101.out 4).trans rfl
                          have hfz47_0:=blk_frozen BK101.out 0
                          have hfz47_1:=blk_frozen BK101.out 1
                          have hfz47_2:=blk_frozen BK101.out 2
                          have hfz47_3:=blk_frozen BK101.out 3
                          have hfz47_4:=blk_frozen BK101.out 4
                          have p105 : 0 ≤ (x45_3 : Int):=of_decide_eq_true (by first | (with_reducible assumption) | assumption)
                          have q105 : x45_3 < (l0_3.length : Int):=of_decide_eq_true (by first | (with_reducible assumption) | assumption)
                          obtain ⟨ad105,e105,hx105_0⟩:=Kd.at_bool HR0_3.out x45_3 p105 q105
                          (try rw [← Nbq24.out] at hx105_0)
                          (try rw [← Nbq26.out] at hx105_0)
                          (try rw [← Nbq34.out] at hx105_0)
                          (try rw [← Nbq38.out] at hx105_0)
                          (try rw [← Nbq45.out] at hx105_0)
                          cases e105
                          replace hx105_0:=(HB.out.cell (World.block_lt_of_cell? w _ hx105_0)).trans hx105_0
                          replace p105:=eq_true p105
                          replace q105:=eq_true q105
                          have p106 : 0 ≤ ((ji31) : Int):=of_decide_eq_true (by first | (with_reducible assumption) | assumption)
                          have q106 : (ji31) < (l0_2.length : Int):=of_decide_eq_true (by first | (with_reducible assumption) | assumption)
                          obtain ⟨ad106,e106,hx106_0⟩:=Kd.at_bool HR0_2.out (ji31) p106 q106
                          (try rw [← Nbq24.out] at hx106_0)
                          (try rw [← Nbq26.out] at hx106_0)
                          (try rw [← Nbq34.out] at hx106_0)
                          (try rw [← Nbq38.out] at hx106_0)
                          (try rw [← Nbq45.out] at hx106_0)
                          obtain rfl : ad104 = ad106:=(by injection e106)
                          replace hx106_0:=(HB.out.cell (World.block_lt_of_cell? w _ hx106_0)).trans hx106_0
                          replace p106:=eq_true p106
                          replace q106:=eq_true q106
                          have p107 : 0 ≤ (x45_3 : Int):=of_decide_eq_true (by first | (with_reducible assumption) | assumption)
                          have q107 : x45_3 < (l0_4.length : Int):=of_decide_eq_true (by first | (with_reducible assumption) | assumption)
                          obtain ⟨ad107,e107,hx107_0⟩:=Kd.at_bool HR0_4.out x45_3 p107 q107
                          (try rw [← Nbq24.out] at hx107_0)
                          (try rw [← Nbq26.out] at hx107_0)
                          (try rw [← Nbq34.out] at hx107_0)
                          (try rw [← Nbq38.out] at hx107_0)
                          (try rw [← Nbq45.out] at hx107_0)
                          cases e107
                          replace hx107_0:=(HB.out.cell (World.block_lt_of_cell? w _ hx107_0)).trans hx107_0
                          replace p107:=eq_true p107
                          replace q107:=eq_true q107
                          have p108 : 0 ≤ ((ji42) : Int):=of_decide_eq_true (by first | (with_reducible assumption) | assumption)
                          have q108 : (ji42) < (l0_2.length : Int):=of_decide_eq_true (by first | (with_reducible assumption) | assumption)
                          obtain ⟨ad108,e108,hx108_0⟩:=Kd.at_bool HR0_2.out (ji42) p108 q108
                          (try rw [← Nbq24.out] at hx108_0)
                          (try rw [← Nbq26.out] at hx108_0)
                          (try rw [← Nbq34.out] at hx108_0)
                          (try rw [← Nbq38.out] at hx108_0)
                          (try rw [← Nbq45.out] at hx108_0)
                          obtain rfl : ad104 = ad108:=(by injection e108)
                          replace hx108_0:=(HB.out.cell (World.block_lt_of_cell? w _ hx108_0)).trans hx108_0
                          replace p108:=eq_true p108
                          replace q108:=eq_true q108
                          go_wp2
                          repeat (go_quiet (fail);try go_wp2)
                          go_ret
                          exact ⟨by first | rfl | (simp [errW_none,errW_some] <;> rfl) | (simp only [← hji31,← hji42];first | rfl | (simp [errW_none,errW_some] <;> rfl)) | (simp [*,errW_none,errW_some] <;> rfl) | (exfalso;contradiction),by repeat (first | (with_reducible first | exact HB.out | apply below_alloc | apply pw_below_drewN | apply below_drew1 | refine below_set ?_ GE101.out) | exact HB.out)⟩
                         ·replace c46:=Bool.eq_false_iff.mpr c46
                          subst c46
                          have H1 : (grid_Check.l0 k3 l0_2 (l0_2.length : Int) ji31 a0_0 a0_1 l0_2 l0_3 l0_4) = some r:=by rw [if_neg (show ¬ (false = true) by decide)] at H;exact H
                          clear H
                          have H:=H1
                          clear H1
                          have H':=Aside0.mk H
                          clear H
                          have p104 : 0 ≤ (x45_3 : Int):=of_decide_eq_true (by first | (with_reducible assumption) | assumption)
                          have q104 : x45_3 < (l0_2.length : Int):=of_decide_eq_true (by first | (with_reducible assumption) | assumption)
                          obtain ⟨ad104,e104,hx104_0⟩:=Kd.at_bool HR0_2.out x45_3 p104 q104
                          (try rw [← Nbq24.out] at hx104_0)
                          (try rw [← Nbq26.out] at hx104_0)
                          (try rw [← Nbq34.out] at hx104_0)
                          (try rw [← Nbq38.out] at hx104_0)
                          (try rw [← Nbq45.out] at hx104_0)
                          cases e104
                          replace hx104_0:=(HB.out.cell (World.block_lt_of_cell? w _ hx104_0)).trans hx104_0
                          replace p104:=eq_true p104
                          replace q104:=eq_true q104
                          have hcz48_0 : wr.cell? ⟨gb101,0,none⟩ = some (.int .i64 a0_0):=(blk_cell BK101.out 0).trans rfl
                          have hcz48_1 : wr.cell? ⟨gb101,1,none⟩ = some (.int .i64 a0_1):=(blk_cell BK101.out 1).trans rfl
                          have hcz48_2 : wr.cell? ⟨gb101,2,none⟩ = some (.slice (some ad104) l0_2.length c0_2):=(blk_cell BK101.out 2).trans rfl
                          have hcz48_3 : wr.cell? ⟨gb101,3,none⟩ = some (.slice A0_3 l0_3.length c0_3):=(blk_cell BK101.out 3).trans rfl
                          have hcz48_4 : wr.cell? ⟨gb101,4,none⟩ = some (.slice A0_4 l0_4.length c0_4):=(blk_cell BK101.out 4).trans rfl
                          have hfz48_0:=blk_frozen BK101.out 0
                          have hfz48_1:=blk_frozen BK101.out 1
                          have hfz48_2:=blk_frozen BK101.out 2
                          have hfz48_3:=blk_frozen BK101.out 3
                          have hfz48_4:=blk_frozen BK101.out 4
                          have p105 : 0 ≤ (x45_3 : Int):=of_decide_eq_true (by first | (with_reducible assumption) | assumption)
                          have q105 : x45_3 < (l0_3.length : Int):=of_decide_eq_true (by first | (with_reducible assumption) | assumption)
                          obtain ⟨ad105,e105,hx105_0⟩:=Kd.at_bool HR0_3.out x45_3 p105 q105
                          (try rw [← Nbq24.out] at hx105_0)
                          (try rw [← Nbq26.out] at hx105_0)
                          (try rw [← Nbq34.out] at hx105_0)
                          (try rw [← Nbq38.out] at hx105_0)
                          (try rw [← Nbq45.out] at hx105_0)
                          cases e105
                          replace hx105_0:=(HB.out.cell (World.block_lt_of_cell? w _ hx105_0)).trans hx105_0
                          replace p105:=eq_true p105
                          replace q105:=eq_true q105
                          have p106 : 0 ≤ ((ji31) : Int):=of_decide_eq_true (by first | (with_reducible assumption) | assumption)
                          have q106 : (ji31) < (l0_2.length : Int):=of_decide_eq_true (by first | (with_reducible assumption) | assumption)
                          obtain ⟨ad106,e106,hx106_0⟩:=Kd.at_bool HR0_2.out (ji31) p106 q106
                          (try rw [← Nbq24.out] at hx106_0)
                          (try rw [← Nbq26.out] at hx106_0)
                          (try rw [← Nbq34.out] at hx106_0)
                          (try rw [← Nbq38.out] at hx106_0)
                          (try rw [← Nbq45.out] at hx106_0)
                          obtain rfl : ad104 = ad106:=(by injection e106)
                          replace hx106_0:=(HB.out.cell (World.block_lt_of_cell? w _ hx106_0)).trans hx106_0
                          replace p106:=eq_true p106
                          replace q106:=eq_true q106
                          have p107 : 0 ≤ (x45_3 : Int):=of_decide_eq_true (by first | (with_reducible assumption) | assumption)
                          have q107 : x45_3 < (l0_4.length : Int):=of_decide_eq_true (by first | (with_reducible assumption) | assumption)
                          obtain ⟨ad107,e107,hx107_0⟩:=Kd.at_bool HR0_4.out x45_3 p107 q107
                          (try rw [← Nbq24.out] at hx107_0)
                          (try rw [← Nbq26.out] at hx107_0)
                          (try rw [← Nbq34.out] at hx107_0)
                          (try rw [← Nbq38.out] at hx107_0)
                          (try rw [← Nbq45.out] at hx107_0)
                          cases e107
                          replace hx107_0:=(HB.out.cell (World.block_lt_of_cell? w _ hx107_0)).trans hx107_0
                          replace p107:=eq_true p107
                          replace q107:=eq_true q107
                          have p108 : 0 ≤ ((ji42) : Int):=of_decide_eq_true (by first | (with_reducible assumption) | assumption)
                          have q108 : (ji42) < (l0_2.length : Int):=of_decide_eq_true (by first | (with_reducible assumption) | assumption)
                          obtain ⟨ad108,e108,hx108_0⟩:=Kd.at_bool HR0_2.out (ji42) p108 q108
                          (try rw [← Nbq24.out] at hx108_0)
                          (try rw [← Nbq26.out] at hx108_0)
                          (try rw [← Nbq34.out] at hx108_0)
                          (try rw [← Nbq38.out] at hx108_0)
                          (try rw [← Nbq45.out] at hx108_0)
                          obtain rfl : ad104 = ad108:=(by injection e108)
                          replace hx108_0:=(HB.out.cell (World.block_lt_of_cell? w _ hx108_0)).trans hx108_0
                          replace p108:=eq_true p108
                          replace q108:=eq_true q108
                          go_wp2
                          repeat (go_quiet (fail);try go_wp2)
                          go_roundg k3
                          case measure=>have:=HJ1.out;have:=HJ9.out;have:=HK3.out;omega
                          case rel=>exact ⟨(ji31),(by first | rfl | (simp;done) | (simp only [← hji31] <;> (first | rfl | simp)) | (simp [*];done)),H',⟨by have:=HJ1.out;have:=HJ9.out;have:=HK3.out;omega⟩,⟨by (with_reducible repeat (first | refine blk_drewN ?_ _ | refine blk_drew ?_ | refine blk_alloc ?_ _));exact BK101.out⟩,⟨by repeat (first | (with_reducible first | exact HB.out | apply below_alloc | apply pw_below_drewN | apply below_drew1 | refine below_set ?_ GE101.out) | exact HB.out)⟩⟩
                        ·rw [if_neg c44] at H
                         exact absurd H (by simp)
                       ·rw [if_neg c43] at H
                        exact absurd H (by simp)
                     ·replace c39:=Bool.eq_false_iff.mpr c39
                      subst c39
                      have H1 : (grid_Check.l0 k3 l0_2 (l0_2.length : Int) ji31 a0_0 a0_1 l0_2 l0_3 l0_4) = some r:=by rw [if_neg (show ¬ (false = true) by decide)] at H;exact H
                      clear H
                      have H:=H1
                      clear H1
                      have H':=Aside0.mk H
                      clear H
                      have p104 : 0 ≤ (x45_3 : Int):=of_decide_eq_true (by first | (with_reducible assumption) | assumption)
                      have q104 : x45_3 < (l0_2.length : Int):=of_decide_eq_true (by first | (with_reducible assumption) | assumption)
                      obtain ⟨ad104,e104,hx104_0⟩:=Kd.at_bool HR0_2.out x45_3 p104 q104
                      (try rw [← Nbq24.out] at hx104_0)
                      (try rw [← Nbq26.out] at hx104_0)
                      (try rw [← Nbq34.out] at hx104_0)
                      (try rw [← Nbq38.out] at hx104_0)
                      cases e104
                      replace hx104_0:=(HB.out.cell (World.block_lt_of_cell? w _ hx104_0)).trans hx104_0
                      replace p104:=eq_true p104
                      replace q104:=eq_true q104
                      have hcz49_0 : wr.cell? ⟨gb101,0,none⟩ = some (.int .i64 a0_0):=(blk_cell BK101.out 0).trans rfl
                      have hcz49_1 : wr.cell? ⟨gb101,1,none⟩ = some (.int .i64 a0_1):=(blk_cell BK101.out 1).trans rfl
                      have hcz49_2 : wr.cell? ⟨gb101,2,none⟩ = some (.slice (some ad104) l0_2.length c0_2):=(blk_cell BK101.out 2).trans rfl
                      have hcz49_3 : wr.cell? ⟨gb101,3,none⟩ = some (.slice A0_3 l0_3.length c0_3):=(blk_cell BK101.out 3).trans rfl
                      have hcz49_4 : wr.cell? ⟨gb101,4,none⟩ = some (.slice A0_4 l0_4.length c0_4):=(blk_cell BK101.out 4).trans rfl
                      have hfz49_0:=blk_frozen BK101.out 0
                      have hfz49_1:=blk_frozen BK101.out 1
                      have hfz49_2:=blk_frozen BK101.out 2
                      have hfz49_3:=blk_frozen BK101.out 3
                      have hfz49_4:=blk_frozen BK101.out 4
                      have p105 : 0 ≤ (x45_3 : Int):=of_decide_eq_true (by first | (with_reducible assumption) | assumption)
                      have q105 : x45_3 < (l0_3.length : Int):=of_decide_eq_true (by first | (with_reducible assumption) | assumption)
                      obtain ⟨ad105,e105,hx105_0⟩:=Kd.at_bool HR0_3.out x45_3 p105 q105
                      (try rw [← Nbq24.out] at hx105_0)
                      (try rw [← Nbq26.out] at hx105_0)
                      (try rw [← Nbq34.out] at hx105_0)
                      (try rw [← Nbq38.out] at hx105_0)
                      cases e105
                      replace hx105_0:=(HB.out.cell (World.block_lt_of_cell? w _ hx105_0)).trans hx105_0
                      replace p105:=eq_true p105
                      replace q105:=eq_true q105
                      have p106 : 0 ≤ ((ji31) : Int):=of_decide_eq_true (by first | (with_reducible assumption) | assumption)
                      have q106 : (ji31) < (l0_2.length : Int):=of_decide_eq_true (by first | (with_reducible assumption) | assumption)
                      obtain ⟨ad106,e106,hx106_0⟩:=Kd.at_bool HR0_2.out (ji31) p106 q106
                      (try rw [← Nbq24.out] at hx106_0)
                      (try rw [← Nbq26.out] at hx106_0)
                      (try rw [← Nbq34.out] at hx106_0)
                      (try rw [← Nbq38.out] at hx106_0)
                      obtain rfl : ad104 = ad106:=(by injection e106)
                      replace hx106_0:=(HB.out.cell (World.block_lt_of_cell? w _ hx106_0)).trans hx106_0
                      replace p106:=eq_true p106
                      replace q106:=eq_true q106
                      have p107 : 0 ≤ (x45_3 : Int):=of_decide_eq_true (by first | (with_reducible assumption) | assumption)
                      have q107 : x45_3 < (l0_4.length : Int):=of_decide_eq_true (by first | (with_reducible assumption) | assumption)
                      obtain ⟨ad107,e107,hx107_0⟩:=Kd.at_bool HR0_4.out x45_3 p107 q107
                      (try rw [← Nbq24.out] at hx107_0)
                      (try rw [← Nbq26.out] at hx107_0)
                      (try rw [← Nbq34.out] at hx107_0)
                      (try rw [← Nbq38.out] at hx107_0)
                      cases e107
                      replace hx107_0:=(HB.out.cell (World.block_lt_of_cell? w _ hx107_0)).trans hx107_0
                      replace p107:=eq_true p107
                      replace q107:=eq_true q107
                      go_wp2
                      repeat (go_quiet (fail);try go_wp2)
                      go_roundg k3
                      case measure=>have:=HJ1.out;have:=HJ9.out;have:=HK3.out;omega
                      case rel=>exact ⟨(ji31),(by first | rfl | (simp;done) | (simp only [← hji31] <;> (first | rfl | simp)) | (simp [*];done)),H',⟨by have:=HJ1.out;have:=HJ9.out;have:=HK3.out;omega⟩,⟨by (with_reducible repeat (first | refine blk_drewN ?_ _ | refine blk_drew ?_ | refine blk_alloc ?_ _));exact BK101.out⟩,⟨by repeat (first | (with_reducible first | exact HB.out | apply below_alloc | apply pw_below_drewN | apply below_drew1 | refine below_set ?_ GE101.out) | exact HB.out)⟩⟩
                    ·rw [if_neg c37] at H
                     exact absurd H (by simp)
                  ·rw [if_neg c33] at H
                   exact absurd H (by simp)
                 ·rw [if_neg c32] at H
                  exact absurd H (by simp)
              ·replace c25:=Bool.eq_false_iff.mpr c25
               subst c25
               have H1 : (if x45_3 < (l0_4.length : Int) then (if rdOf false l0_4 x45_3 = true then (if rdOf false l0_2 x45_3 = true then (some 52) else (if (wrap64 (Int.tdiv x45_3 a0_1)) = (wrap64 (a0_0 - 1)) then (some 52) else (if 0 ≤ (wrap64 (x45_3 + a0_1)) then (if (wrap64 (x45_3 + a0_1)) < (l0_2.length : Int) then (if rdOf false l0_2 (wrap64 (x45_3 + a0_1)) = true then (some 52) else (grid_Check.l0 k3 l0_2 (l0_2.length : Int) (wrap64 (x45_3 + 1)) a0_0 a0_1 l0_2 l0_3 l0_4)) else (none)) else (none)))) else (grid_Check.l0 k3 l0_2 (l0_2.length : Int) (wrap64 (x45_3 + 1)) a0_0 a0_1 l0_2 l0_3 l0_4)) else (none)) = some r:=by rw [if_neg (show ¬ (false = true) by decide)] at H;exact H
               clear H
               have H:=H1
               clear H1
               by_cases c50 : x45_3 < (l0_4.length : Int)
               ·rw [if_pos c50] at H
                have c50b0 : decide (x45_3 < (l0_4.length : Int)) = true:=decide_eq_true c50
                clear c50
                obtain ⟨bq51,hbq51⟩ : ∃ b_ : Bool,b_ = (rdOf false l0_4 x45_3):=⟨_,rfl⟩
                replace H : (if bq51 = true then (if rdOf false l0_2 x45_3 = true then (some 52) else (if (wrap64 (Int.tdiv x45_3 a0_1)) = (wrap64 (a0_0 - 1)) then (some 52) else (if 0 ≤ (wrap64 (x45_3 + a0_1)) then (if (wrap64 (x45_3 + a0_1)) < (l0_2.length : Int) then (if rdOf false l0_2 (wrap64 (x45_3 + a0_1)) = true then (some 52) else (grid_Check.l0 k3 l0_2 (l0_2.length : Int) (wrap64 (x45_3 + 1)) a0_0 a0_1 l0_2 l0_3 l0_4)) else (none)) else (none)))) else (grid_Check.l0 k3 l0_2 (l0_2.length : Int) (wrap64 (x45_3 + 1)) a0_0 a0_1 l0_2 l0_3 l0_4)) = some r:=by rw [← hbq51] at H;exact H
                have Nbq51:=Aside0.mk hbq51
                clear hbq51
                by_cases c52 : bq51 = true
                ·subst c52
                 have H1 : (if rdOf false l0_2 x45_3 = true then (some 52) else (if (wrap64 (Int.tdiv x45_3 a0_1)) = (wrap64 (a0_0 - 1)) then (some 52) else (if 0 ≤ (wrap64 (x45_3 + a0_1)) then (if (wrap64 (x45_3 + a0_1)) < (l0_2.length : Int) then (if rdOf false l0_2 (wrap64 (x45_3 + a0_1)) = true then (some 52) else (grid_Check.l0 k3 l0_2 (l0_2.length : Int) (wrap64 (x45_3 + 1)) a0_0 a0_1 l0_2 l0_3 l0_4)) else (none)) else (none)))) = some r:=by rw [if_pos rfl] at H;exact H
                 clear H
                 have H:=H1
                 clear H1
                 obtain ⟨bq53,hbq53⟩ : ∃ b_ : Bool,b_ = (rdOf false l0_2 x45_3):=⟨_,rfl⟩
                 replace H : (if bq53 = true then (some 52) else (if (wrap64 (Int.tdiv x45_3 a0_1)) = (wrap64 (a0_0 - 1)) then (some 52) else (if 0 ≤ (wrap64 (x45_3 + a0_1)) then (if (wrap64 (x45_3 + a0_1)) < (l0_2.length : Int) then (if rdOf false l0_2 (wrap64 (x45_3 + a0_1)) = true then (some 52) else (grid_Check.l0 k3 l0_2 (l0_2.length : Int) (wrap64 (x45_3 + 1)) a0_0 a0_1 l0_2 l0_3 l0_4)) else (none)) else (none)))) = some r:=by rw [← hbq53] at H;exact H
                 have Nbq53:=Aside0.mk hbq53
                 clear hbq53
                 by_cases c54 : bq53 = true
                 ·subst c54
                  have H1 : (some 52) = some r:=by rw [if_pos rfl] at H;exact H
                  clear H
                  have H:=H1
                  clear H1
                  obtain rfl:=Option.some.inj H
                  have p104 : 0 ≤ (x45_3 : Int):=of_decide_eq_true (by first | (with_reducible assumption) | assumption)
                  have q104 : x45_3 < (l0_2.length : Int):=of_decide_eq_true (by first | (with_reducible assumption) | assumption)
                  obtain ⟨ad104,e104,hx104_0⟩:=Kd.at_bool HR0_2.out x45_3 p104 q104
                  (try rw [← Nbq24.out] at hx104_0)
                  (try rw [← Nbq51.out] at hx104_0)
                  (try rw [← Nbq53.out] at hx104_0)
                  cases e104
                  replace hx104_0:=(HB.out.cell (World.block_lt_of_cell? w _ hx104_0)).trans hx104_0
                  replace p104:=eq_true p104
                  replace q104:=eq_true q104
                  have hcz55_0 : wr.cell? ⟨gb101,0,none⟩ = some (.int .i64 a0_0):=(blk_cell BK101.out 0).trans rfl
                  have hcz55_1 : wr.cell? ⟨gb101,1,none⟩ = some (.int .i64 a0_1):=(blk_cell BK101.out 1).trans rfl
                  have hcz55_2 : wr.cell? ⟨gb101,2,none⟩ = some (.slice (some ad104) l0_2.length c0_2):=(blk_cell BK101.out 2).trans rfl
                  have hcz55_3 : wr.cell? ⟨gb101,3,none⟩ = some (.slice A0_3 l0_3.length c0_3):=(blk_cell BK101.out 3).trans rfl
                  have hcz55_4 : wr.cell? ⟨gb101,4,none⟩ = some (.slice A0_4 l0_4.length c0_4):=(blk_cell BK101.out 4).trans rfl
                  have hfz55_0:=blk_frozen BK101.out 0
                  have hfz55_1:=blk_frozen BK101.out 1
                  have hfz55_2:=blk_frozen BK101.out 2
                  have hfz55_3:=blk_frozen BK101.out 3
                  have hfz55_4:=blk_frozen BK101.out 4
                  have p105 : 0 ≤ (x45_3 : Int):=of_decide_eq_true (by first | (with_reducible assumption) | assumption)
                  have q105 : x45_3 < (l0_3.length : Int):=of_decide_eq_true (by first | (with_reducible assumption) | assumption)
                  obtain ⟨ad105,e105,hx105_0⟩:=Kd.at_bool HR0_3.out x45_3 p105 q105
                  (try rw [← Nbq24.out] at hx105_0)
                  (try rw [← Nbq51.out] at hx105_0)
                  (try rw [← Nbq53.out] at hx105_0)
                  cases e105
                  replace hx105_0:=(HB.out.cell (World.block_lt_of_cell? w _ hx105_0)).trans hx105_0
                  replace p105:=eq_true p105
                  replace q105:=eq_true q105
                  have p109 : 0 ≤ (x45_3 : Int):=of_decide_eq_true (by first | (with_reducible assumption) | assumption)
                  have q109 : x45_3 < (l0_4.length : Int):=of_decide_eq_true (by first | (with_reducible assumption) | assumption)
                  obtain ⟨ad109,e109,hx109_0⟩:=Kd.at_bool HR0_4.out x45_3 p109 q109
                  (try rw [← Nbq24.out] at hx109_0)
                  (try rw [← Nbq51.out] at hx109_0)
                  (try rw [← Nbq53.out] at hx109_0)
                  cases e109
                  replace hx109_0:=(HB.out.cell (World.block_lt_of_cell? w _ hx109_0)).trans hx109_0
                  replace p109:=eq_true p109
                  replace q109:=eq_true q109
                  go_wp2
                  repeat (go_quiet (fail);try go_wp2)
                  go_ret
                  exact ⟨by first | rfl | (simp [errW_none,errW_some] <;> rfl) | (simp [*,errW_none,errW_some] <;> rfl) | (exfalso;contradiction),by repeat (first | (with_reducible first | exact HB.out | apply below_alloc | apply pw_below_drewN | apply below_drew1 | refine below_set ?_ GE101.out) | exact HB.out)⟩
                 ·replace c54:=Bool.eq_false_iff.mpr c54
                  subst c54
                  have H1 : (if (wrap64 (Int.tdiv x45_3 a0_1)) = (wrap64 (a0_0 - 1)) then (some 52) else (if 0 ≤ (wrap64 (x45_3 + a0_1)) then (if (wrap64 (x45_3 + a0_1)) < (l0_2.length : Int) then (if rdOf false l0_2 (wrap64 (x45_3 + a0_1)) = true then (some 52) else (grid_Check.l0 k3 l0_2 (l0_2.length : Int) (wrap64 (x45_3 + 1)) a0_0 a0_1 l0_2 l0_3 l0_4)) else (none)) else (none))) = some r:=by rw [if_neg (show ¬ (false = true) by decide)] at H;exact H
                  clear H
                  have H:=H1
                  clear H1
                  by_cases c56 : (wrap64 (Int.tdiv x45_3 a0_1)) = (wrap64 (a0_0 - 1))
                  ·rw [if_pos c56] at H
                   have c56b0 : ((wrap64 (Int.tdiv x45_3 a0_1)) == (wrap64 (a0_0 - 1))) = true:=beq_iff_eq.mpr c56
                   have c56b1 : ((wrap64 (Int.tdiv x45_3 a0_1)) != (wrap64 (a0_0 - 1))) = false:=bne_eq_false_iff_eq.mpr c56
                   clear c56
                   obtain rfl:=Option.some.inj H
                   have p104 : 0 ≤ (x45_3 : Int):=of_decide_eq_true (by first | (with_reducible assumption) | assumption)
                   have q104 : x45_3 < (l0_2.length : Int):=of_decide_eq_true (by first | (with_reducible assumption) | assumption)
                   obtain ⟨ad104,e104,hx104_0⟩:=Kd.at_bool HR0_2.out x45_3 p104 q104
                   (try rw [← Nbq24.out] at hx104_0)
                   (try rw [← Nbq51.out] at hx104_0)
                   (try rw [← Nbq53.out] at hx104_0)
                   cases e104
                   replace hx104_0:=(HB.out.cell (World.block_lt_of_cell? w _ hx104_0)).trans hx104_0
                   replace p104:=eq_true p104
                   replace q104:=eq_true q104
                   have hcz57_0 : wr.cell? ⟨gb101,0,none⟩ = some (.int .i64 a0_0):=(blk_cell BK101.out 0).trans rfl
                   have hcz57_1 : wr.cell? ⟨gb101,1,none⟩ = some (.int .i64 a0_1):=(blk_cell BK101.out 1).trans rfl
                   have hcz57_2 : wr.cell? ⟨gb101,2,none⟩ = some (.slice (some ad104) l0_2.length c0_2):=(blk_cell BK101.out 2).trans rfl
                   have hcz57_3 : wr.cell? ⟨gb101,3,none⟩ = some (.slice A0_3 l0_3.length c0_3):=(blk_cell BK101.out 3).trans rfl
                   have hcz57_4 : wr.cell? ⟨gb101,4,none⟩ = some (.slice A0_4 l0_4.length c0_4):=(blk_cell BK101.out 4).trans rfl
                   have hfz57_0:=blk_frozen BK101.out 0
                   have hfz57_1:=blk_frozen BK101.out 1
                   have hfz57_2:=blk_frozen BK101.out 2
                   have hfz57_3:=blk_frozen BK101.out 3
                   have hfz57_4:=blk_frozen BK101.out 4
                   have p105 : 0 ≤ (x45_3 : Int):=of_decide_eq_true (by first | (with_reducible assumption) | assumption)
                   have q105 : x45_3 < (l0_3.length : Int):=of_decide_eq_true (by first | (with_reducible assumption) | assumption)
                   obtain ⟨ad105,e105,hx105_0⟩:=Kd.at_bool HR0_3.out x45_3 p105 q105
                   (try rw [← Nbq24.out] at hx105_0)
                   (try rw [← Nbq51.out] at hx105_0)
                   (try rw [← Nbq53.out] at hx105_0)
                   cases e105
                   replace hx105_0:=(HB.out.cell (World.block_lt_of_cell? w _ hx105_0)).trans hx105_0
                   replace p105:=eq_true p105
                   replace q105:=eq_true q105
                   have p109 : 0 ≤ (x45_3 : Int):=of_decide_eq_true (by first | (with_reducible assumption) | assumption)
                   have q109 : x45_3 < (l0_4.length : Int):=of_decide_eq_true (by first | (with_reducible assumption) | assumption)
                   obtain ⟨ad109,e109,hx109_0⟩:=Kd.at_bool HR0_4.out x45_3 p109 q109
                   (try rw [← Nbq24.out] at hx109_0)
                   (try rw [← Nbq51.out] at hx109_0)
                   (try rw [← Nbq53.out] at hx109_0)
                   cases e109
                   replace hx109_0:=(HB.out.cell (World.block_lt_of_cell? w _ hx109_0)).trans hx109_0
                   replace p109:=eq_true p109
                   replace q109:=eq_true q109
                   go_wp2
                   repeat (go_quiet (fail);try go_wp2)
                   go_ret
                   exact ⟨by first | rfl | (simp [errW_none,errW_some] <;> rfl) | (simp [*,errW_none,errW_some] <;> rfl) | (exfalso;contradiction),by repeat (first | (with_reducible first | exact HB.out | apply below_alloc | apply pw_below_drewN | apply below_drew1 | refine below_set ?_ GE101.out) | exact HB.out)⟩
                  ·rw [if_neg c56] at H
                   have c56b0 : ((wrap64 (Int.tdiv x45_3 a0_1)) == (wrap64 (a0_0 - 1))) = false:=beq_eq_false_iff_ne.mpr c56
                   have c56b1 : ((wrap64 (Int.tdiv x45_3 a0_1)) != (wrap64 (a0_0 - 1))) = true:=bne_iff_ne.mpr c56
                   obtain ⟨ji58,hji58⟩ : ∃ j_ : Int,(wrap64 (x45_3 + a0_1)) = j_:=⟨_,rfl⟩
                   replace H : (if 0 ≤ (ji58) then (if (ji58) < (l0_2.length : Int) then (if rdOf false l0_2 (ji58) = true then (some 52) else (grid_Check.l0 k3 l0_2 (l0_2.length : Int) (wrap64 (x45_3 + 1)) a0_0 a0_1 l0_2 l0_3 l0_4)) else (none)) else (none)) = some r:=by first | (rw [hji58] at H;exact H) | (simp only [hji58] at H ⊢;exact H)
                   have hji58w : (IntKind.i64.wrap (x45_3 + a0_1)) = ji58:=(i64_w _).trans hji58
                   by_cases c59 : 0 ≤ (ji58)
                   ·rw [if_pos c59] at H
                    have c59b0 : decide (0 ≤ (ji58)) = true:=decide_eq_true c59
                    clear c59
                    by_cases c60 : (ji58) < (l0_2.length : Int)
                    ·rw [if_pos c60] at H
                     have c60b0 : decide ((ji58) < (l0_2.length : Int)) = true:=decide_eq_true c60
                     clear c60
                     obtain ⟨bq61,hbq61⟩ : ∃ b_ : Bool,b_ = (rdOf false l0_2 (ji58)):=⟨_,rfl⟩
                     replace H : (if bq61 = true then (some 52) else (grid_Check.l0 k3 l0_2 (l0_2.length : Int) (wrap64 (x45_3 + 1)) a0_0 a0_1 l0_2 l0_3 l0_4)) = some r:=by rw [← hbq61] at H;exact H
                     have Nbq61:=Aside0.mk hbq61
                     clear hbq61
                     by_cases c62 : bq61 = true
                     ·subst c62
                      have H1 : (some 52) = some r:=by rw [if_pos rfl] at H;exact H
                      clear H
                      have H:=H1
                      clear H1
                      obtain rfl:=Option.some.inj H
                      have p104 : 0 ≤ (x45_3 : Int):=of_decide_eq_true (by first | (with_reducible assumption) | assumption)
                      have q104 : x45_3 < (l0_2.length : Int):=of_decide_eq_true (by first | (with_reducible assumption) | assumption)
                      obtain ⟨ad104,e104,hx104_0⟩:=Kd.at_bool HR0_2.out x45_3 p104 q104
                      (try rw [← Nbq24.out] at hx104_0)
                      (try rw [← Nbq51.out] at hx104_0)
                      (try rw [← Nbq53.out] at hx104_0)
                      (try rw [← Nbq61.out] at hx104_0)
                      cases e104
                      replace hx104_0:=(HB.out.cell (World.block_lt_of_cell? w _ hx104_0)).trans hx104_0
                      replace p104:=eq_true p104
                      replace q104:=eq_true q104
                      have hcz63_0 : wr.cell? ⟨gb101,0,none⟩ = some (.int .i64 a0_0):=(blk_cell BK101.out 0).trans rfl
                      have hcz63_1 : wr.cell? ⟨gb101,1,none⟩ = some (.int .i64 a0_1):=(blk_cell BK101.out 1).trans rfl
                      have hcz63_2 : wr.cell? ⟨gb101,2,none⟩ = some (.slice (some ad104) l0_2.length c0_2):=(blk_cell BK101.out 2).trans rfl
                      have hcz63_3 : wr.cell? ⟨gb101,3,none⟩ = some (.slice A0_3 l0_3.length c0_3):=(blk_cell BK101.out 3).trans rfl
                      have hcz63_4 : wr.cell? ⟨gb101,4,none⟩ = some (.slice A0_4 l0_4.length c0_4):=(blk_cell BK101.out 4).trans rfl
                      have hfz63_0:=blk_frozen BK101.out 0
                      have hfz63_1:=blk_frozen BK101.out 1
                      have hfz63_2:=blk_frozen BK101.out 2
                      have hfz63_3:=blk_frozen BK101.out 3
                      have hfz63_4:=blk_frozen BK101.out 4
                      have p105 : 0 ≤ (x45_3 : Int):=of_decide_eq_true (by first | (with_reducible assumption) | assumption)
                      have q105 : x45_3 < (l0_3.length : Int):=of_decide_eq_true (by first | (with_reducible assumption) | assumption)
                      obtain ⟨ad105,e105,hx105_0⟩:=Kd.at_bool HR0_3.out x45_3 p105 q105
                      (try rw [← Nbq24.out] at hx105_0)
                      (try rw [← Nbq51.out] at hx105_0)
                      (try rw [← Nbq53.out] at hx105_0)
                      (try rw [← Nbq61.out] at hx105_0)
                      cases e105
                      replace hx105_0:=(HB.out.cell (World.block_lt_of_cell? w _ hx105_0)).trans hx105_0
                      replace p105:=eq_true p105
                      replace q105:=eq_true q105
                      have p109 : 0 ≤ (x45_3 : Int):=of_decide_eq_true (by first | (with_reducible assumption) | assumption)
                      have q109 : x45_3 < (l0_4.length : Int):=of_decide_eq_true (by first | (with_reducible assumption) | assumption)
                      obtain ⟨ad109,e109,hx109_0⟩:=Kd.at_bool HR0_4.out x45_3 p109 q109
                      (try rw [← Nbq24.out] at hx109_0)
                      (try rw [← Nbq51.out] at hx109_0)
                      (try rw [← Nbq53.out] at hx109_0)
                      (try rw [← Nbq61.out] at hx109_0)
                      cases e109
                      replace hx109_0:=(HB.out.cell (World.block_lt_of_cell? w _ hx109_0)).trans hx109_0
                      replace p109:=eq_true p109
                      replace q109:=eq_true q109
                      have p110 : 0 ≤ ((ji58) : Int):=of_decide_eq_true (by first | (with_reducible assumption) | assumption)
                      have q110 : (ji58) < (l0_2.length : Int):=of_decide_eq_true (by first | (with_reducible assumption) | assumption)
                      obtain ⟨ad110,e110,hx110_0⟩:=Kd.at_bool HR0_2.out (ji58) p110 q110
                      (try rw [← Nbq24.out] at hx110_0)
                      (try rw [← Nbq51.out] at hx110_0)
                      (try rw [← Nbq53.out] at hx110_0)
                      (try rw [← Nbq61.out] at hx110_0)
                      obtain rfl : ad104 = ad110:=(by injection e110)
                      replace hx110_0:=(HB.out.cell (World.block_lt_of_cell? w _ hx110_0)).trans hx110_0
                      replace p110:=eq_true p110
                      replace q110:=eq_true q110
                      go_wp2
                      repeat (go_quiet (fail);try go_wp2)
                      go_ret
                      exact ⟨by first | rfl | (simp [errW_none,errW_some] <;> rfl) | (simp only [← hji58];first | rfl | (simp [errW_none,errW_some] <;> rfl)) | (simp [*,errW_none,errW_some] <;> rfl) | (exfalso;contradiction),by repeat (first | (with_reducible first | exact HB.out | apply below_alloc | apply pw_below_drewN | apply below_drew1 | refine below_set ?_ GE101.out) | exact HB.out)⟩
                     ·replace c62:=Bool.eq_false_iff.mpr c62
                      subst c62
                      have H1 : (grid_Check.l0 k3 l0_2 (l0_2.length : Int) (wrap64 (x45_3 + 1)) a0_0 a0_1 l0_2 l0_3 l0_4) = some r:=by rw [if_neg (show ¬ (false = true) by decide)] at H;exact H
                      clear H
                      have H:=H1
                      clear H1
                      have H':=Aside0.mk H
                      clear H
                      have p104 : 0 ≤ (x45_3 : Int):=of_decide_eq_true (by first | (with_reducible assumption) | assumption)
                      have q104 : x45_3 < (l0_2.length : Int):=of_decide_eq_true (by first | (with_reducible assumption) | assumption)
                      obtain ⟨ad104,e104,hx104_0⟩:=Kd.at_bool HR0_2.out x45_3 p104 q104
                      (try rw [← Nbq24.out] at hx104_0)
                      (try rw [← Nbq51.out] at hx104_0)
                      (try rw [← Nbq53.out] at hx104_0)
                      (try rw [← Nbq61.out] at hx104_0)
                      cases e104
                      replace hx104_0:=(HB.out.cell (World.block_lt_of_cell? w _ hx104_0)).trans hx104_0
                      replace p104:=eq_true p104
                      replace q104:=eq_true q104
                      have hcz64_0 : wr.cell? ⟨gb101,0,none⟩ = some (.int .i64 a0_0):=(blk_cell BK101.out 0).trans rfl
                      have hcz64_1 : wr.cell? ⟨gb101,1,none⟩ = some (.int .i64 a0_1):=(blk_cell BK101.out 1).trans rfl
                      have hcz64_2 : wr.cell? ⟨gb101,2,none⟩ = some (.slice (some ad104) l0_2.length c0_2):=(blk_cell BK101.out 2).trans rfl
                      have hcz64_3 : wr.cell? ⟨gb101,3,none⟩ = some (.slice A0_3 l0_3.length c0_3):=(blk_cell BK101.out 3).trans rfl
                      have hcz64_4 : wr.cell? ⟨gb101,4,none⟩ = some (.slice A0_4 l0_4.length c0_4):=(blk_cell BK101.out 4).trans rfl
                      have hfz64_0:=blk_frozen BK101.out 0
                      have hfz64_1:=blk_frozen BK101.out 1
                      have hfz64_2:=blk_frozen BK101.out 2
                      have hfz64_3:=blk_frozen BK101.out 3
                      have hfz64_4:=blk_frozen BK101.out 4
                      have p105 : 0 ≤ (x45_3 : Int):=of_decide_eq_true (by first | (with_reducible assumption) | assumption)
                      have q105 : x45_3 < (l0_3.length : Int):=of_decide_eq_true (by first | (with_reducible assumption) | assumption)
                      obtain ⟨ad105,e105,hx105_0⟩:=Kd.at_bool HR0_3.out x45_3 p105 q105
                      (try rw [← Nbq24.out] at hx105_0)
                      (try rw [← Nbq51.out] at hx105_0)
                      (try rw [← Nbq53.out] at hx105_0)
                      (try rw [← Nbq61.out] at hx105_0)
                      cases e105
                      replace hx105_0:=(HB.out.cell (World.block_lt_of_cell? w _ hx105_0)).trans hx105_0
                      replace p105:=eq_true p105
                      replace q105:=eq_true q105
                      have p109 : 0 ≤ (x45_3 : Int):=of_decide_eq_true (by first | (with_reducible assumption) | assumption)
                      have q109 : x45_3 < (l0_4.length : Int):=of_decide_eq_true (by first | (with_reducible assumption) | assumption)
                      obtain ⟨ad109,e109,hx109_0⟩:=Kd.at_bool HR0_4.out x45_3 p109 q109
                      (try rw [← Nbq24.out] at hx109_0)
                      (try rw [← Nbq51.out] at hx109_0)
                      (try rw [← Nbq53.out] at hx109_0)
                      (try rw [← Nbq61.out] at hx109_0)
                      cases e109
                      replace hx109_0:=(HB.out.cell (World.block_lt_of_cell? w _ hx109_0)).trans hx109_0
                      replace p109:=eq_true p109
                      replace q109:=eq_true q109
                      have p110 : 0 ≤ ((ji58) : Int):=of_decide_eq_true (by first | (with_reducible assumption) | assumption)
                      have q110 : (ji58) < (l0_2.length : Int):=of_decide_eq_true (by first | (with_reducible assumption) | assumption)
                      obtain ⟨ad110,e110,hx110_0⟩:=Kd.at_bool HR0_2.out (ji58) p110 q110
                      (try rw [← Nbq24.out] at hx110_0)
                      (try rw [← Nbq51.out] at hx110_0)
                      (try rw [← Nbq53.out] at hx110_0)
                      (try rw [← Nbq61.out] at hx110_0)
                      obtain rfl : ad104 = ad110:=(by injection e110)
                      replace hx110_0:=(HB.out.cell (World.block_lt_of_cell? w _ hx110_0)).trans hx110_0
                      replace p110:=eq_true p110
                      replace q110:=eq_true q110
                      go_wp2
                      repeat (go_quiet (fail);try go_wp2)
                      go_roundg k3
                      case measure=>have:=HJ1.out;have:=HJ9.out;have:=HK3.out;omega
                      case rel=>exact ⟨(wrap64 (x45_3 + 1)),(by first | rfl | (simp;done) | (simp [*];done)),H',⟨by have:=HJ1.out;have:=HJ9.out;have:=HK3.out;omega⟩,⟨by (with_reducible repeat (first | refine blk_drewN ?_ _ | refine blk_drew ?_ | refine blk_alloc ?_ _));exact BK101.out⟩,⟨by repeat (first | (with_reducible first | exact HB.out | apply below_alloc | apply pw_below_drewN | apply below_drew1 | refine below_set ?_ GE101.out) | exact HB.out)⟩⟩
                    ·rw [if_neg c60] at H
                     exact absurd H (by simp)
                   ·rw [if_neg c59] at H
                    exact absurd H (by simp)
                ·replace c52:=Bool.eq_false_iff.mpr c52
                 subst c52
                 have H1 : (grid_Check.l0 k3 l0_2 (l0_2.length : Int) (wrap64 (x45_3 + 1)) a0_0 a0_1 l0_2 l0_3 l0_4) = some r:=by rw [if_neg (show ¬ (false = true) by decide)] at H;exact H
                 clear H
                 have H:=H1
                 clear H1
                 have H':=Aside0.mk H
                 clear H
                 have p104 : 0 ≤ (x45_3 : Int):=of_decide_eq_true (by first | (with_reducible assumption) | assumption)
                 have q104 : x45_3 < (l0_2.length : Int):=of_decide_eq_true (by first | (with_reducible assumption) | assumption)
                 obtain ⟨ad104,e104,hx104_0⟩:=Kd.at_bool HR0_2.out x45_3 p104 q104
                 (try rw [← Nbq24.out] at hx104_0)
                 (try rw [← Nbq51.out] at hx104_0)
                 cases e104
                 replace hx104_0:=(HB.out.cell (World.block_lt_of_cell? w _ hx104_0)).trans hx104_0
                 replace p104:=eq_true p104
                 replace q104:=eq_true q104
                 have hcz65_0 : wr.cell? ⟨gb101,0,none⟩ = some (.int .i64 a0_0):=(blk_cell BK101.out 0).trans rfl
                 have hcz65_1 : wr.cell? ⟨gb101,1,none⟩ = some (.int .i64 a0_1):=(blk_cell BK101.out 1).trans rfl
                 have hcz65_2 : wr.cell? ⟨gb101,2,none⟩ = some (.slice (some ad104) l0_2.length c0_2):=(blk_cell BK101.out 2).trans rfl
                 have hcz65_3 : wr.cell? ⟨gb101,3,none⟩ = some (.slice A0_3 l0_3.length c0_3):=(blk_cell BK101.out 3).trans rfl
                 have hcz65_4 : wr.cell? ⟨gb101,4,none⟩ = some (.slice A0_4 l0_4.length c0_4):=(blk_cell BK101.out 4).trans rfl
                 have hfz65_0:=blk_frozen BK101.out 0
                 have hfz65_1:=blk_frozen BK101.out 1
                 have hfz65_2:=blk_frozen BK101.out 2
                 have hfz65_3:=blk_frozen BK101.out 3
                 have hfz65_4:=blk_frozen BK101.out 4
                 have p105 : 0 ≤ (x45_3 : Int):=of_decide_eq_true (by first | (with_reducible assumption) | assumption)
                 have q105 : x45_3 < (l0_3.length : Int):=of_decide_eq_true (by first | (with_reducible assumption) | assumption)
                 obtain ⟨ad105,e105,hx105_0⟩:=Kd.at_bool HR0_3.out x45_3 p105 q105
                 (try rw [← Nbq24.out] at hx105_0)
                 (try rw [← Nbq51.out] at hx105_0)
                 cases e105
                 replace hx105_0:=(HB.out.cell (World.block_lt_of_cell? w _ hx105_0)).trans hx105_0
                 replace p105:=eq_true p105
                 replace q105:=eq_true q105
                 have p109 : 0 ≤ (x45_3 : Int):=of_decide_eq_true (by first | (with_reducible assumption) | assumption)
                 have q109 : x45_3 < (l0_4.length : Int):=of_decide_eq_true (by first | (with_reducible assumption) | assumption)
                 obtain ⟨ad109,e109,hx109_0⟩:=Kd.at_bool HR0_4.out x45_3 p109 q109
                 (try rw [← Nbq24.out] at hx109_0)
                 (try rw [← Nbq51.out] at hx109_0)
                 cases e109
                 replace hx109_0:=(HB.out.cell (World.block_lt_of_cell? w _ hx109_0)).trans hx109_0
                 replace p109:=eq_true p109
                 replace q109:=eq_true q109
                 go_wp2
                 repeat (go_quiet (fail);try go_wp2)
                 go_roundg k3
                 case measure=>have:=HJ1.out;have:=HJ9.out;have:=HK3.out;omega
                 case rel=>exact ⟨(wrap64 (x45_3 + 1)),(by first | rfl | (simp;done) | (simp [*];done)),H',⟨by have:=HJ1.out;have:=HJ9.out;have:=HK3.out;omega⟩,⟨by (with_reducible repeat (first | refine blk_drewN ?_ _ | refine blk_drew ?_ | refine blk_alloc ?_ _));exact BK101.out⟩,⟨by repeat (first | (with_reducible first | exact HB.out | apply below_alloc | apply pw_below_drewN | apply below_drew1 | refine below_set ?_ GE101.out) | exact HB.out)⟩⟩
               ·rw [if_neg c50] at H
                exact absurd H (by simp)
             ·rw [if_neg c23] at H
              exact absurd H (by simp)
           ·rw [if_neg c21] at H
            exact absurd H (by simp)
          ·rw [if_neg c20] at H
           exact absurd H (by simp)
         ·rw [if_neg c19] at H
          have c19b0 : decide (x45_3 < (l0_2.length : Int)) = false:=decide_eq_false c19
          clear c19
          obtain rfl:=Option.some.inj H
          go_wp2
          repeat (go_quiet (fail);try go_wp2)
          go_ret
          exact ⟨by first | rfl | (simp [errW_none,errW_some] <;> rfl) | (simp [*,errW_none,errW_some] <;> rfl) | (exfalso;contradiction),by repeat (first | (with_reducible first | exact HB.out | apply below_alloc | apply pw_below_drewN | apply below_drew1 | refine below_set ?_ GE101.out) | exact HB.out)⟩
end Go.Proofs.YtpfbcepgmigeiaaGreatDoor.Q
