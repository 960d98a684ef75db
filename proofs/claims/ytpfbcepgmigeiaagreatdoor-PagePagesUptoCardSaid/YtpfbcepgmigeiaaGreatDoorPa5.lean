/- PART 5 OF A PROOF: Lean functions, and that the program computes them; written by hand and by a program. Not trusted: Lean checks it. -/
import Derived.Test.YtpfbcepgmigeiaaGreatDoorPa3
import Derived.Test.YtpfbcepgmigeiaaGreatDoorPa4
set_option linter.unusedVariables false
set_option linter.unusedSimpArgs false
section
namespace Go.Proofs.YtpfbcepgmigeiaaGreatDoor.Q
open Go.RowKit Go.Proofs.YtpfbcepgmigeiaaGreatDoorW.PrintWords Go.Proofs.YtpfbcepgmigeiaaGreatDoorW.PrintLast Go.Proofs.YtpfbcepgmigeiaaGreatDoorW.PrintMore
attribute [local go_sem] max2_int min2_int max_two min_two max_three min_three max_four min_four
set_option linter.unusedVariables false
set_option linter.unusedSimpArgs false
def grid_open.f (a0_0 : Int) (a0_1 : Int) (l0_2 : List Bool) (l0_3 : List Bool) (l0_4 : List Bool) (a1 : Int) : Option (Bool):=if a1 ≥ 0 then (if a1 < (l0_2.length : Int) then (if 0 ≤ a1 then (some (!(rdOf false l0_2 a1))) else (none)) else (some false)) else (some false)
set_option maxHeartbeats 8000000 in
set_option maxRecDepth 100000 in
theorem grid_open.calls (a0_0 : Int) (a0_1 : Int) (A0_2 : Option Addr) (c0_2 : Nat) (l0_2 : List Bool) (A0_3 : Option Addr) (c0_3 : Nat) (l0_3 : List Bool) (A0_4 : Option Addr) (c0_4 : Nat) (l0_4 : List Bool) (a1 : Int) (r : Bool) (w : World) (hr0_2 : Kd.C Kd.bool w A0_2 l0_2.length l0_2) (hc0_2 : l0_2.length ≤ c0_2) (hr0_3 : Kd.C Kd.bool w A0_3 l0_3.length l0_3) (hc0_3 : l0_3.length ≤ c0_3) (hr0_4 : Kd.C Kd.bool w A0_4 l0_4.length l0_4) (hc0_4 : l0_4.length ≤ c0_4) (h : grid_open.f a0_0 a0_1 l0_2 l0_3 l0_4 a1 = some r) :
  Calls Tryz.prog 104 #[.agg #[.int .i64 a0_0,.int .i64 a0_1,.slice A0_2 l0_2.length c0_2,.slice A0_3 l0_3.length c0_3,.slice A0_4 l0_4.length c0_4],.int .i64 a1] w fun e w'=>e = .returned (.bool r) ∧ Below w.heap.size w w':=by
 have hu24:=Tryz.underlying24
 have HR0_2:=Aside0.mk hr0_2
 have HC0_2:=Aside0.mk hc0_2
 clear hr0_2 hc0_2
 have HR0_3:=Aside0.mk hr0_3
 have HC0_3:=Aside0.mk hc0_3
 clear hr0_3 hc0_3
 have HR0_4:=Aside0.mk hr0_4
 have HC0_4:=Aside0.mk hc0_4
 clear hr0_4 hc0_4
 have HB:=Aside0.mk (Below.refl w.heap.size w)
 have H : (if a1 ≥ 0 then (if a1 < (l0_2.length : Int) then (if 0 ≤ a1 then (some (!(rdOf false l0_2 a1))) else (none)) else (some false)) else (some false)) = some r:=h
 clear h
 by_cases c3 : a1 ≥ 0
 ·rw [if_pos c3] at H
  have c3b0 : decide (0 ≤ a1) = true:=decide_eq_true c3
  clear c3
  by_cases c4 : a1 < (l0_2.length : Int)
  ·rw [if_pos c4] at H
   have c4b0 : decide (a1 < (l0_2.length : Int)) = true:=decide_eq_true c4
   clear c4
   by_cases c5 : 0 ≤ a1
   ·rw [if_pos c5] at H
    have c5b0 : decide (0 ≤ a1) = true:=decide_eq_true c5
    clear c5
    obtain rfl:=Option.some.inj H
    go_enter Tryz.func104,Tryz.ntmps104
    go_wp2_with (first | ((with_reducible refine gate_dst (N:=2) rfl ?_);(try (refine gate_guard (by rfl) ?_;dsimp only));refine box_event ?hg (N:=2) ?hd (cs:=#[.int .i64 a0_0,.int .i64 a0_1,.slice A0_2 l0_2.length c0_2,.slice A0_3 l0_3.length c0_3,.slice A0_4 l0_4.length c0_4]) (t:=24) ?hr ?_;(case hd=>rfl);(case hg=>rfl);(case hr=>first | (go_simp;done) | (go_simp;rfl));intro gb111 hg w6 hbox hb;have n0_:=Aside0.mk (below_step (by repeat (first | (with_reducible first | exact HB.out | apply below_alloc | apply pw_below_drewN | apply below_drew1) | exact HB.out)) hb);have n1_:=Aside0.mk (hbox);have n2_:=Aside0.mk ((by rw [hg];exact (below_size (by repeat (first | (with_reducible first | exact HB.out | apply below_alloc | apply pw_below_drewN | apply below_drew1) | exact HB.out))) : w.heap.size ≤ gb111));have n3_:=Aside0.mk ((by rw [hg];exact (below_size (by repeat (first | (with_reducible first | exact HB.out | apply below_alloc | apply pw_below_drewN | apply below_drew1) | exact HB.out))) : w.heap.size ≤ gb111));clear HB;have HB:=n0_;have BK111:=n1_;have GW111:=n2_;have GE111:=n3_;clear n0_ n1_ n2_ n3_;clear hb hbox hg;have hcz7_0 : w6.cell? ⟨gb111,0,none⟩ = some (.int .i64 a0_0):=(blk_cell BK111.out 0).trans rfl;have hcz7_1 : w6.cell? ⟨gb111,1,none⟩ = some (.int .i64 a0_1):=(blk_cell BK111.out 1).trans rfl;have hcz7_2 : w6.cell? ⟨gb111,2,none⟩ = some (.slice A0_2 l0_2.length c0_2):=(blk_cell BK111.out 2).trans rfl;have hcz7_3 : w6.cell? ⟨gb111,3,none⟩ = some (.slice A0_3 l0_3.length c0_3):=(blk_cell BK111.out 3).trans rfl;have hcz7_4 : w6.cell? ⟨gb111,4,none⟩ = some (.slice A0_4 l0_4.length c0_4):=(blk_cell BK111.out 4).trans rfl;have hfz7_0:=blk_frozen BK111.out 0;have hfz7_1:=blk_frozen BK111.out 1;have hfz7_2:=blk_frozen BK111.out 2;have hfz7_3:=blk_frozen BK111.out 3;have hfz7_4:=blk_frozen BK111.out 4;have p112 : 0 ≤ (a1 : Int):=of_decide_eq_true (by first | (with_reducible assumption) | assumption);have q112 : a1 < (l0_2.length : Int):=of_decide_eq_true (by first | (with_reducible assumption) | assumption);obtain ⟨ad112,e112,hx112_0⟩:=Kd.at_bool HR0_2.out a1 p112 q112;cases e112;replace hx112_0:=(HB.out.cell (World.block_lt_of_cell? w _ hx112_0)).trans hx112_0;replace p112:=eq_true p112;replace q112:=eq_true q112))
    go_ret
    exact ⟨by first | rfl | (simp [errW_none,errW_some] <;> rfl) | (simp [*,errW_none,errW_some] <;> rfl) | (exfalso;contradiction),by repeat (first | (with_reducible first | exact HB.out | apply below_alloc | apply pw_below_drewN | apply below_drew1 | refine below_set ?_ GE111.out) | exact HB.out)⟩
   ·rw [if_neg c5] at H
    exact absurd H (by simp)
  ·rw [if_neg c4] at H
   have c4b0 : decide (a1 < (l0_2.length : Int)) = false:=decide_eq_false c4
   clear c4
   obtain rfl:=Option.some.inj H
   go_enter Tryz.func104,Tryz.ntmps104
   go_wp2_with (first | ((with_reducible refine gate_dst (N:=2) rfl ?_);(try (refine gate_guard (by rfl) ?_;dsimp only));refine box_event ?hg (N:=2) ?hd (cs:=#[.int .i64 a0_0,.int .i64 a0_1,.slice A0_2 l0_2.length c0_2,.slice A0_3 l0_3.length c0_3,.slice A0_4 l0_4.length c0_4]) (t:=24) ?hr ?_;(case hd=>rfl);(case hg=>rfl);(case hr=>first | (go_simp;done) | (go_simp;rfl));intro gb111 hg w8 hbox hb;have n0_:=Aside0.mk (below_step (by repeat (first | (with_reducible first | exact HB.out | apply below_alloc | apply pw_below_drewN | apply below_drew1) | exact HB.out)) hb);have n1_:=Aside0.mk (hbox);have n2_:=Aside0.mk ((by rw [hg];exact (below_size (by repeat (first | (with_reducible first | exact HB.out | apply below_alloc | apply pw_below_drewN | apply below_drew1) | exact HB.out))) : w.heap.size ≤ gb111));have n3_:=Aside0.mk ((by rw [hg];exact (below_size (by repeat (first | (with_reducible first | exact HB.out | apply below_alloc | apply pw_below_drewN | apply below_drew1) | exact HB.out))) : w.heap.size ≤ gb111));clear HB;have HB:=n0_;have BK111:=n1_;have GW111:=n2_;have GE111:=n3_;clear n0_ n1_ n2_ n3_;clear hb hbox hg;have hcz9_0 : w8.cell? ⟨gb111,0,none⟩ = some (.int .i64 a0_0):=(blk_cell BK111.out 0).trans rfl;have hcz9_1 : w8.cell? ⟨gb111,1,none⟩ = some (.int .i64 a0_1):=(blk_cell BK111.out 1).trans rfl;have hcz9_2 : w8.cell? ⟨gb111,2,none⟩ = some (.slice A0_2 l0_2.length c0_2):=(blk_cell BK111.out 2).trans rfl;have hcz9_3 : w8.cell? ⟨gb111,3,none⟩ = some (.slice A0_3 l0_3.length c0_3):=(blk_cell BK111.out 3).trans rfl;have hcz9_4 : w8.cell? ⟨gb111,4,none⟩ = some (.slice A0_4 l0_4.length c0_4):=(blk_cell BK111.out 4).trans rfl;have hfz9_0:=blk_frozen BK111.out 0;have hfz9_1:=blk_frozen BK111.out 1;have hfz9_2:=blk_frozen BK111.out 2;have hfz9_3:=blk_frozen BK111.out 3;have hfz9_4:=blk_frozen BK111.out 4))
   go_ret
   exact ⟨by first | rfl | (simp [errW_none,errW_some] <;> rfl) | (simp [*,errW_none,errW_some] <;> rfl) | (exfalso;contradiction),by repeat (first | (with_reducible first | exact HB.out | apply below_alloc | apply pw_below_drewN | apply below_drew1 | refine below_set ?_ GE111.out) | exact HB.out)⟩
 ·rw [if_neg c3] at H
  have c3b0 : decide (0 ≤ a1) = false:=decide_eq_false c3
  clear c3
  obtain rfl:=Option.some.inj H
  go_enter Tryz.func104,Tryz.ntmps104
  go_wp2_with (first | ((with_reducible refine gate_dst (N:=2) rfl ?_);(try (refine gate_guard (by rfl) ?_;dsimp only));refine box_event ?hg (N:=2) ?hd (cs:=#[.int .i64 a0_0,.int .i64 a0_1,.slice A0_2 l0_2.length c0_2,.slice A0_3 l0_3.length c0_3,.slice A0_4 l0_4.length c0_4]) (t:=24) ?hr ?_;(case hd=>rfl);(case hg=>rfl);(case hr=>first | (go_simp;done) | (go_simp;rfl));intro gb111 hg w10 hbox hb;have n0_:=Aside0.mk (below_step (by repeat (first | (with_reducible first | exact HB.out | apply below_alloc | apply pw_below_drewN | apply below_drew1) | exact HB.out)) hb);have n1_:=Aside0.mk (hbox);have n2_:=Aside0.mk ((by rw [hg];exact (below_size (by repeat (first | (with_reducible first | exact HB.out | apply below_alloc | apply pw_below_drewN | apply below_drew1) | exact HB.out))) : w.heap.size ≤ gb111));have n3_:=Aside0.mk ((by rw [hg];exact (below_size (by repeat (first | (with_reducible first | exact HB.out | apply below_alloc | apply pw_below_drewN | apply below_drew1) | exact HB.out))) : w.heap.size ≤ gb111));clear HB;have HB:=n0_;have BK111:=n1_;have GW111:=n2_;have GE111:=n3_;clear n0_ n1_ n2_ n3_;clear hb hbox hg))
  go_ret
  exact ⟨by first | rfl | (simp [errW_none,errW_some] <;> rfl) | (simp [*,errW_none,errW_some] <;> rfl) | (exfalso;contradiction),by repeat (first | (with_reducible first | exact HB.out | apply below_alloc | apply pw_below_drewN | apply below_drew1 | refine below_set ?_ GE111.out) | exact HB.out)⟩
def grid_Open.f (k : Nat) (a0_0 : Int) (a0_1 : Int) (l0_2 : List Bool) (l0_3 : List Bool) (l0_4 : List Bool) (a1 : Int) : Option (Bool):=(grid_Check.f k a0_0 a0_1 l0_2 l0_3 l0_4).bind fun t114=>(if t114 = 0 then ((grid_open.f a0_0 a0_1 l0_2 l0_3 l0_4 a1).bind fun t115=>(some t115)) else (some false))
set_option maxHeartbeats 8000000 in
set_option maxRecDepth 100000 in
theorem grid_Open.calls (k : Nat) (a0_0 : Int) (a0_1 : Int) (A0_2 : Option Addr) (c0_2 : Nat) (l0_2 : List Bool) (A0_3 : Option Addr) (c0_3 : Nat) (l0_3 : List Bool) (A0_4 : Option Addr) (c0_4 : Nat) (l0_4 : List Bool) (a1 : Int) (r : Bool) (w : World) (hr0_2 : Kd.C Kd.bool w A0_2 l0_2.length l0_2) (hc0_2 : l0_2.length ≤ c0_2) (hr0_3 : Kd.C Kd.bool w A0_3 l0_3.length l0_3) (hc0_3 : l0_3.length ≤ c0_3) (hr0_4 : Kd.C Kd.bool w A0_4 l0_4.length l0_4) (hc0_4 : l0_4.length ≤ c0_4) (h : grid_Open.f k a0_0 a0_1 l0_2 l0_3 l0_4 a1 = some r) :
  Calls Tryz.prog 71 #[.agg #[.int .i64 a0_0,.int .i64 a0_1,.slice A0_2 l0_2.length c0_2,.slice A0_3 l0_3.length c0_3,.slice A0_4 l0_4.length c0_4],.int .i64 a1] w fun e w'=>e = .returned (.bool r) ∧ Below w.heap.size w w':=by
 have hu24:=Tryz.underlying24
 have HR0_2:=Aside0.mk hr0_2
 have HC0_2:=Aside0.mk hc0_2
 clear hr0_2 hc0_2
 have HR0_3:=Aside0.mk hr0_3
 have HC0_3:=Aside0.mk hc0_3
 clear hr0_3 hc0_3
 have HR0_4:=Aside0.mk hr0_4
 have HC0_4:=Aside0.mk hc0_4
 clear hr0_4 hc0_4
 have HB:=Aside0.mk (Below.refl w.heap.size w)
 have H : ((grid_Check.f k a0_0 a0_1 l0_2 l0_3 l0_4).bind fun t114=>(if t114 = 0 then ((grid_open.f a0_0 a0_1 l0_2 l0_3 l0_4 a1).bind fun t115=>(some t115)) else (some false))) = some r:=h
 clear h
 replace H:=Option.bind_eq_some_iff.mp H
 obtain ⟨t114,A30,H⟩:=H
 replace H : (if t114 = 0 then ((grid_open.f a0_0 a0_1 l0_2 l0_3 l0_4 a1).bind fun t115=>(some t115)) else (some false)) = some r:=H
 have A3:=Aside0.mk A30
 clear A30
 by_cases c4 : t114 = 0
 ·rw [if_pos c4] at H
  have c4b0 : (t114 == 0) = true:=beq_iff_eq.mpr c4
  have c4b1 : (t114 != 0) = false:=bne_eq_false_iff_eq.mpr c4
  clear c4
  replace H:=Option.bind_eq_some_iff.mp H
  obtain ⟨t115,A50,H⟩:=H
  replace H : (some t115) = some r:=H
  have A5:=Aside0.mk A50
  clear A50
  obtain rfl:=Option.some.inj H
  go_enter Tryz.func71,Tryz.ntmps71
  go_wp2_with (first | ((with_reducible refine gate_dst (N:=2) rfl ?_);refine box_event ?hg (N:=2) ?hd (cs:=#[.int .i64 a0_0,.int .i64 a0_1,.slice A0_2 l0_2.length c0_2,.slice A0_3 l0_3.length c0_3,.slice A0_4 l0_4.length c0_4]) (t:=24) ?hr ?_;(case hd=>rfl);(case hg=>rfl);(case hr=>first | (go_simp;done) | (go_simp;rfl));intro gb113 hg w6 hbox hb;have n0_:=Aside0.mk (below_step (by repeat (first | (with_reducible first | exact HB.out | apply below_alloc | apply pw_below_drewN | apply below_drew1) | exact HB.out)) hb);have n1_:=Aside0.mk (hbox);have n2_:=Aside0.mk ((by rw [hg];exact (below_size (by repeat (first | (with_reducible first | exact HB.out | apply below_alloc | apply pw_below_drewN | apply below_drew1) | exact HB.out))) : w.heap.size ≤ gb113));have n3_:=Aside0.mk ((by rw [hg];exact (below_size (by repeat (first | (with_reducible first | exact HB.out | apply below_alloc | apply pw_below_drewN | apply below_drew1) | exact HB.out))) : w.heap.size ≤ gb113));clear HB;have HB:=n0_;have BK113:=n1_;have GW113:=n2_;have GE113:=n3_;clear n0_ n1_ n2_ n3_;clear hb hbox hg;have hcz7_0 : w6.cell? ⟨gb113,0,none⟩ = some (.int .i64 a0_0):=(blk_cell BK113.out 0).trans rfl;have hcz7_1 : w6.cell? ⟨gb113,1,none⟩ = some (.int .i64 a0_1):=(blk_cell BK113.out 1).trans rfl;have hcz7_2 : w6.cell? ⟨gb113,2,none⟩ = some (.slice A0_2 l0_2.length c0_2):=(blk_cell BK113.out 2).trans rfl;have hcz7_3 : w6.cell? ⟨gb113,3,none⟩ = some (.slice A0_3 l0_3.length c0_3):=(blk_cell BK113.out 3).trans rfl;have hcz7_4 : w6.cell? ⟨gb113,4,none⟩ = some (.slice A0_4 l0_4.length c0_4):=(blk_cell BK113.out 4).trans rfl;have hfz7_0:=blk_frozen BK113.out 0;have hfz7_1:=blk_frozen BK113.out 1;have hfz7_2:=blk_frozen BK113.out 2;have hfz7_3:=blk_frozen BK113.out 3;have hfz7_4:=blk_frozen BK113.out 4) | ((with_reducible refine gate_callee (f:=37) rfl ?_);refine goesL_ (some 6) rfl rfl Tryz.func37 (by kernel_rfl) rfl #[.agg #[.int .i64 a0_0,.int .i64 a0_1,.slice A0_2 l0_2.length c0_2,.slice A0_3 l0_3.length c0_3,.slice A0_4 l0_4.length c0_4]] rfl (by (try simp only [List.map_toArray,List.map_cons,List.map_nil]);first | done | rfl | (simp only [List.length_drop,List.length_take];rfl)) ?_;(with_reducible refine (grid_Check.calls k a0_0 a0_1 _ _ l0_2 _ _ l0_3 _ _ l0_4 t114 _ ?side1 ?side2 ?side3 ?side4 ?side5 ?side6 A3.out).mono ?_);(case side1=>repeat (first | exact (Kd.C_below HR0_2.out HB.out) | (with_reducible refine Kd.C_alloc ?_ _) | (with_reducible refine Kd.C_drewN ?_ _) | (with_reducible refine Kd.C_drew ?_)));(case side2=>exact HC0_2.out);(case side3=>repeat (first | exact (Kd.C_below HR0_3.out HB.out) | (with_reducible refine Kd.C_alloc ?_ _) | (with_reducible refine Kd.C_drewN ?_ _) | (with_reducible refine Kd.C_drew ?_)));(case side4=>exact HC0_3.out);(case side5=>repeat (first | exact (Kd.C_below HR0_4.out HB.out) | (with_reducible refine Kd.C_alloc ?_ _) | (with_reducible refine Kd.C_drewN ?_ _) | (with_reducible refine Kd.C_drew ?_)));(case side6=>exact HC0_4.out);rintro e w8 ⟨rfl,hb⟩;refine ⟨_,rfl,?_⟩;have n0_:=Aside0.mk (blk_below (g:=gb113) (o:=.cells #[.int .i64 a0_0,.int .i64 a0_1,.slice A0_2 l0_2.length c0_2,.slice A0_3 l0_3.length c0_3,.slice A0_4 l0_4.length c0_4] 24 (0,0)) (by (with_reducible repeat (first | refine blk_drewN ?_ _ | refine blk_drew ?_ | refine blk_alloc ?_ _));exact BK113.out) hb);have n1_:=Aside0.mk (below_step (by repeat (first | (with_reducible first | exact HB.out | apply below_alloc | apply pw_below_drewN | apply below_drew1 | refine below_set ?_ GE113.out) | exact HB.out)) hb);clear BK113;clear HB;have BK113:=n0_;have HB:=n1_;clear n0_ n1_;(try clear hb);(try clear hb2);(try clear hk);(try clear hi);have hcz9_0 : w8.cell? ⟨gb113,0,none⟩ = some (.int .i64 a0_0):=(blk_cell BK113.out 0).trans rfl;have hcz9_1 : w8.cell? ⟨gb113,1,none⟩ = some (.int .i64 a0_1):=(blk_cell BK113.out 1).trans rfl;have hcz9_2 : w8.cell? ⟨gb113,2,none⟩ = some (.slice A0_2 l0_2.length c0_2):=(blk_cell BK113.out 2).trans rfl;have hcz9_3 : w8.cell? ⟨gb113,3,none⟩ = some (.slice A0_3 l0_3.length c0_3):=(blk_cell BK113.out 3).trans rfl;have hcz9_4 : w8.cell? ⟨gb113,4,none⟩ = some (.slice A0_4 l0_4.length c0_4):=(blk_cell BK113.out 4).trans rfl;have hfz9_0:=blk_frozen BK113.out 0;have hfz9_1:=blk_frozen BK113.out 1;have hfz9_2:=blk_frozen BK113.out 2;have hfz9_3:=blk_frozen BK113.out 3;have hfz9_4:=blk_frozen BK113.out 4) | (go_at_call 104;(with_reducible refine (grid_open.calls a0_0 a0_1 _ _ l0_2 _ _ l0_3 _ _ l0_4 a1 t115 _ ?side1 ?side2 ?side3 ?side4 ?side5 ?side6 A5.out).mono ?_);(case side1=>repeat (first | exact (Kd.C_below HR0_2.out HB.out) | (with_reducible refine Kd.C_alloc ?_ _) | (with_reducible refine Kd.C_drewN ?_ _) | (with_reducible refine Kd.C_drew ?_)));(case side2=>exact HC0_2.out);(case side3=>repeat (first | exact (Kd.C_below HR0_3.out HB.out) | (with_reducible refine Kd.C_alloc ?_ _) | (with_reducible refine Kd.C_drewN ?_ _) | (with_reducible refine Kd.C_drew ?_)));(case side4=>exact HC0_3.out);(case side5=>repeat (first | exact (Kd.C_below HR0_4.out HB.out) | (with_reducible refine Kd.C_alloc ?_ _) | (with_reducible refine Kd.C_drewN ?_ _) | (with_reducible refine Kd.C_drew ?_)));(case side6=>exact HC0_4.out);rintro e w10 ⟨rfl,hb⟩;have n0_:=Aside0.mk (blk_below (g:=gb113) (o:=.cells #[.int .i64 a0_0,.int .i64 a0_1,.slice A0_2 l0_2.length c0_2,.slice A0_3 l0_3.length c0_3,.slice A0_4 l0_4.length c0_4] 24 (0,0)) (by (with_reducible repeat (first | refine blk_drewN ?_ _ | refine blk_drew ?_ | refine blk_alloc ?_ _));exact BK113.out) hb);have n1_:=Aside0.mk (below_step (by repeat (first | (with_reducible first | exact HB.out | apply below_alloc | apply pw_below_drewN | apply below_drew1 | refine below_set ?_ GE113.out) | exact HB.out)) hb);clear BK113;clear HB;have BK113:=n0_;have HB:=n1_;clear n0_ n1_;(try clear hb);(try clear hb2);(try clear hk);(try clear hi)))
  go_ret
  exact ⟨by first | rfl | (simp [errW_none,errW_some] <;> rfl) | (simp [*,errW_none,errW_some] <;> rfl) | (exfalso;contradiction),by repeat (first | (with_reducible first | exact HB.out | apply below_alloc | apply pw_below_drewN | apply below_drew1 | refine below_set ?_ GE113.out) | exact HB.out)⟩
 ·rw [if_neg c4] at H
  have c4b0 : (t114 == 0) = false:=beq_eq_false_iff_ne.mpr c4
  have c4b1 : (t114 != 0) = true:=bne_iff_ne.mpr c4
  obtain rfl:=Option.some.inj H
  go_enter Tryz.func71,Tryz.ntmps71
  go_wp2_with (first | ((with_reducible refine gate_dst (N:=2) rfl ?_);refine box_event ?hg (N:=2) ?hd (cs:=#[.int .i64 a0_0,.int .i64 a0_1,.slice A0_2 l0_2.length c0_2,.slice A0_3 l0_3.length c0_3,.slice A0_4 l0_4.length c0_4]) (t:=24) ?hr ?_;(case hd=>rfl);(case hg=>rfl);(case hr=>first | (go_simp;done) | (go_simp;rfl));intro gb113 hg w11 hbox hb;have n0_:=Aside0.mk (below_step (by repeat (first | (with_reducible first | exact HB.out | apply below_alloc | apply pw_below_drewN | apply below_drew1) | exact HB.out)) hb);have n1_:=Aside0.mk (hbox);have n2_:=Aside0.mk ((by rw [hg];exact (below_size (by repeat (first | (with_reducible first | exact HB.out | apply below_alloc | apply pw_below_drewN | apply below_drew1) | exact HB.out))) : w.heap.size ≤ gb113));have n3_:=Aside0.mk ((by rw [hg];exact (below_size (by repeat (first | (with_reducible first | exact HB.out | apply below_alloc | apply pw_below_drewN | apply below_drew1) | exact HB.out))) : w.heap.size ≤ gb113));clear HB;have HB:=n0_;have BK113:=n1_;have GW113:=n2_;have GE113:=n3_;clear n0_ n1_ n2_ n3_;clear hb hbox hg;have hcz12_0 : w11.cell? ⟨gb113,0,none⟩ = some (.int .i64 a0_0):=(blk_cell BK113.out 0).trans rfl;have hcz12_1 : w11.cell? ⟨gb113,1,none⟩ = some (.int .i64 a0_1):=(blk_cell BK113.out 1).trans rfl;have hcz12_2 : w11.cell? ⟨gb113,2,none⟩ = some (.slice A0_2 l0_2.length c0_2):=(blk_cell BK113.out 2).trans rfl;have hcz12_3 : w11.cell? ⟨gb113,3,none⟩ = some (.slice A0_3 l0_3.length c0_3):=(blk_cell BK113.out 3).trans rfl;have hcz12_4 : w11.cell? ⟨gb113,4,none⟩ = some (.slice A0_4 l0_4.length c0_4):=(blk_cell BK113.out 4).trans rfl;have hfz12_0:=blk_frozen BK113.out 0;have hfz12_1:=blk_frozen BK113.out 1;have hfz12_2:=blk_frozen BK113.out 2;have hfz12_3:=blk_frozen BK113.out 3;have hfz12_4:=blk_frozen BK113.out 4) | ((with_reducible refine gate_callee (f:=37) rfl ?_);refine goesL_ (some 6) rfl rfl Tryz.func37 (by kernel_rfl) rfl #[.agg #[.int .i64 a0_0,.int .i64 a0_1,.slice A0_2 l0_2.length c0_2,.slice A0_3 l0_3.length c0_3,.slice A0_4 l0_4.length c0_4]] rfl (by (try simp only [List.map_toArray,List.map_cons,List.map_nil]);first | done | rfl | (simp only [List.length_drop,List.length_take];rfl)) ?_;(with_reducible refine (grid_Check.calls k a0_0 a0_1 _ _ l0_2 _ _ l0_3 _ _ l0_4 t114 _ ?side1 ?side2 ?side3 ?side4 ?side5 ?side6 A3.out).mono ?_);(case side1=>repeat (first | exact (Kd.C_below HR0_2.out HB.out) | (with_reducible refine Kd.C_alloc ?_ _) | (with_reducible refine Kd.C_drewN ?_ _) | (with_reducible refine Kd.C_drew ?_)));(case side2=>exact HC0_2.out);(case side3=>repeat (first | exact (Kd.C_below HR0_3.out HB.out) | (with_reducible refine Kd.C_alloc ?_ _) | (with_reducible refine Kd.C_drewN ?_ _) | (with_reducible refine Kd.C_drew ?_)));(case side4=>exact HC0_3.out);(case side5=>repeat (first | exact (Kd.C_below HR0_4.out HB.out) | (with_reducible refine Kd.C_alloc ?_ _) | (with_reducible refine Kd.C_drewN ?_ _) | (with_reducible refine Kd.C_drew ?_)));(case side6=>exact HC0_4.out);rintro e w13 ⟨rfl,hb⟩;refine ⟨_,rfl,?_⟩;have n0_:=Aside0.mk (blk_below (g:=gb113) (o:=.cells #[.int .i64 a0_0,.int .i64 a0_1,.slice A0_2 l0_2.length c0_2,.slice A0_3 l0_3.length c0_3,.slice A0_4 l0_4.length c0_4] 24 (0,0)) (by (with_reducible repeat (first | refine blk_drewN ?_ _ | refine blk_drew ?_ | refine blk_alloc ?_ _));exact BK113.out) hb);have n1_:=Aside0.mk (below_step (by repeat (first | (with_reducible first | exact HB.out | apply below_alloc | apply pw_below_drewN | apply below_drew1 | refine below_set ?_ GE113.out) | exact HB.out)) hb);clear BK113;clear HB;have BK113:=n0_;have HB:=n1_;clear n0_ n1_;(try clear hb);(try clear hb2);(try clear hk);(try clear hi)))
  go_ret
  exact ⟨by first | rfl | (simp [errW_none,errW_some] <;> rfl) | (simp [*,errW_none,errW_some] <;> rfl) | (exfalso;contradiction),by repeat (first | (with_reducible first | exact HB.out | apply below_alloc | apply pw_below_drewN | apply below_drew1 | refine below_set ?_ GE113.out) | exact HB.out)⟩
end Go.Proofs.YtpfbcepgmigeiaaGreatDoor.Q
end
section
namespace Go.Proofs.YtpfbcepgmigeiaaGreatDoor.Q
open Go.RowKit Go.Proofs.YtpfbcepgmigeiaaGreatDoorW.PrintWords Go.Proofs.YtpfbcepgmigeiaaGreatDoorW.PrintLast Go.Proofs.YtpfbcepgmigeiaaGreatDoorW.PrintMore
attribute [local go_sem] max2_int min2_int max_two min_two max_three min_three max_four min_four
set_option linter.unusedVariables false
set_option linter.unusedSimpArgs false
open Go.Proofs.YtpfbcepgmigeiaaGreatDoorS
def waysV : Value:=.agg #[.int .i64 0,.int .i64 1,.int .i64 1,.int .i64 0,.int .i64 0,.int .i64 (-1),.int .i64 (-1),.int .i64 0]
set_option maxHeartbeats 4000000 in
set_option maxRecDepth 1000000 in
theorem grid_ways.calls (w : World) :
  Calls Tryz.prog 105 #[] w fun e w'=>e = .returned waysV ∧ Below w.heap.size w w':=by
 go_enter Tryz.func105,Tryz.ntmps105
 go_wp2
 exact bodyPost_ret (v:=waysV) (by simp [results,Tryz.results105,go_sem];rfl) rfl ⟨rfl,(Below.refl _ _).alloc (Nat.le_refl _) _⟩
end Go.Proofs.YtpfbcepgmigeiaaGreatDoor.Q
end
section
namespace Go.Proofs.YtpfbcepgmigeiaaGreatDoor.Q
open Go.RowKit Go.Proofs.YtpfbcepgmigeiaaGreatDoorW.PrintWords Go.Proofs.YtpfbcepgmigeiaaGreatDoorW.PrintLast Go.Proofs.YtpfbcepgmigeiaaGreatDoorW.PrintMore
attribute [local go_sem] max2_int min2_int max_two min_two max_three min_three max_four min_four
set_option linter.unusedVariables false
set_option linter.unusedSimpArgs false
open Go.Proofs.YtpfbcepgmigeiaaGreatDoorS
def grid_step.f (a0_0 a0_1 : Int) (l0_2 l0_3 l0_4 : List Bool) (a1 a2 : Int) : Option (Int × Bool) :=
 if (1 ≤ a0_0 ∧ a0_0 ≤ 16) ∧ (1 ≤ a0_1 ∧ a0_1 ≤ 16) ∧ ((l0_2.length : Int) = a0_0 * a0_1 ∧ (l0_3.length : Int) = a0_0 * a0_1 ∧ (l0_4.length : Int) = a0_0 * a0_1) ∧ (0 ≤ a1 ∧ a1 < a0_0 * a0_1) ∧ (0 ≤ a2 ∧ a2 ≤ 3) then some (gstep a0_0 a0_1 l0_2 l0_3 l0_4 a1 a2) else none
theorem way0 (w : World) : (Instr.index 125 waysV (.int .i64 0)).run Tryz.prog w = .ok (.agg #[.int .i64 0,.int .i64 1]) w:=by kernel_rfl
theorem way1 (w : World) : (Instr.index 125 waysV (.int .i64 1)).run Tryz.prog w = .ok (.agg #[.int .i64 1,.int .i64 0]) w:=by kernel_rfl
theorem way2 (w : World) : (Instr.index 125 waysV (.int .i64 2)).run Tryz.prog w = .ok (.agg #[.int .i64 0,.int .i64 (-1)]) w:=by kernel_rfl
theorem way3 (w : World) : (Instr.index 125 waysV (.int .i64 3)).run Tryz.prog w = .ok (.agg #[.int .i64 (-1),.int .i64 0]) w:=by kernel_rfl
def StepPost (r : Int × Bool) (w : World) (e : Ending) (w' : World) : Prop:=e = .returned (.tuple #[.int .i64 r.1,.bool r.2]) ∧ Below w.heap.size w w'
set_option maxHeartbeats 4000000 in
set_option maxRecDepth 1000000 in
theorem grid_step0 (H W : Int) (A2 : Option Addr) (c2 : Nat) (l2 : List Bool) (A3 : Option Addr) (c3 : Nat) (l3 : List Bool) (A4 : Option Addr) (c4 : Nat) (l4 : List Bool) (i : Int) (w : World)
  (h2 : Kd.C Kd.bool w A2 l2.length l2) (h3 : Kd.C Kd.bool w A3 l3.length l3) (h4 : Kd.C Kd.bool w A4 l4.length l4)
  (hH : 1 ≤ H ∧ H ≤ 16) (hW : 1 ≤ W ∧ W ≤ 16) (hl : (l2.length : Int) = H * W ∧ (l3.length : Int) = H * W ∧ (l4.length : Int) = H * W) (hi : 0 ≤ i ∧ i < H * W) :
  Calls Tryz.prog 72 #[.agg #[.int .i64 H,.int .i64 W,.slice A2 l2.length c2,.slice A3 l3.length c3,.slice A4 l4.length c4],.int .i64 i,.int .i64 0] w (StepPost (gstep H W l2 l3 l4 i 0) w):=by
 obtain ⟨q,hq⟩ : ∃ q,i / W = q:=⟨_,rfl⟩
 obtain ⟨m,hm⟩ : ∃ m,i % W = m:=⟨_,rfl⟩
 obtain ⟨p,hp⟩ : ∃ p,q * W = p:=⟨_,rfl⟩
 obtain ⟨p2,hp2⟩ : ∃ p2,(q + 0) * W = p2:=⟨_,rfl⟩
 obtain ⟨n,hn⟩ : ∃ n,H * W = n:=⟨_,rfl⟩
 have hi0:=hi.1
 have hW1:=hW.1
 have hW2:=hW.2
 have hH1:=hH.1
 have hH2:=hH.2
 have hm0 : 0 ≤ m:=by rw [← hm];exact Int.emod_nonneg _ (by omega)
 have hmW : m < W:=by rw [← hm];exact Int.emod_lt_of_pos _ (by omega)
 have hsum : p + m = i:=by rw [← hp,← hq,← hm];have:=Int.mul_ediv_add_emod i W;rw [Int.mul_comm];omega
 have hq0 : 0 ≤ q:=by rw [← hq];exact Int.ediv_nonneg hi0 (by omega)
 have hqH : q < H:=by rw [← hq];exact Int.ediv_lt_of_lt_mul (by omega) hi.2
 have hp0 : 0 ≤ p:=by rw [← hp];exact Int.mul_nonneg hq0 (by omega)
 have hpn : p + W ≤ n:=by
  have h1 : (q + 1) * W ≤ H * W:=Int.mul_le_mul_of_nonneg_right (by omega) (by omega)
  rw [Int.add_mul,Int.one_mul] at h1
  omega
 have hn256 : n ≤ 256:=by
  have h1 : H * W ≤ 16 * 16:=Int.mul_le_mul hH2 hW2 (by omega) (by omega)
  omega
 have hp2v : p2 = p + 0 * W:=by rw [← hp2,Int.add_mul,hp]
 have hin : m + 1 < W → 0 ≤ p2 ∧ p2 + W ≤ n:=by
  intro hc
  have h1 : (q + 1) * W ≤ H * W:=Int.mul_le_mul_of_nonneg_right (by omega) (by omega)
  have h0 : 0 * W ≤ (q + 0) * W:=Int.mul_le_mul_of_nonneg_right (by omega) (by omega)
  rw [Int.add_mul,Int.one_mul] at h1
  rw [Int.zero_mul,hp2] at h0
  rw [hp] at h1
  omega
 have hdq : wrap64 (i.tdiv W) = q:=by
  rw [Int.tdiv_eq_ediv_of_nonneg hi0,hq]
  unfold wrap64
  omega
 have hqq : wrap64 q = q:=by unfold wrap64;omega
 have hqw : wrap64 ((q + 0) * W) = p2:=by rw [hp2];unfold wrap64;omega
 have hp2p : p2 = p:=by omega
 subst hp2p
 rw [Int.add_zero] at hqw hp2
 rw [hn] at hl hi
 by_cases hc : m + 1 < W
 ·have hin:=hin hc
  obtain ⟨ad2,rfl,hx2⟩:=Kd.at_bool h2 (p2 + (m + 1)) (by omega) (by omega)
  obtain ⟨ad3,rfl,hx3⟩:=Kd.at_bool h3 i (by omega) (by omega)
  have hres : gstep H W l2 l3 l4 i 0 = if rdOf false l2 (p2 + (m + 1)) then (0,false) else if rdOf false l3 i then (0,false) else ((p2 + (m + 1)),true):=by
   unfold gstep gat rdOf
   simp only [show (gby 0).1 = 0 from rfl,show (gby 0).2 = 1 from rfl,hq,hm,Int.add_zero]
   rw [hp]
   rw [if_neg (by omega),Int.min_eq_left (by omega)]
   simp
  have hmn : ¬ ((p2 + (m + 1)) < i):=by omega
  have hil : i < (l3.length : Int):=by omega
  have hjl : (p2 + (m + 1)) < (l2.length : Int):=by omega
  have hj0 : 0 ≤ (p2 + (m + 1)):=by omega
  clear hl hi hn hsum hH hW hp2v
  cases hb2 : rdOf false l2 (p2 + (m + 1)) <;> cases hb3 : rdOf false l3 i <;> rw [hb2] at hx2 <;> rw [hb3] at hx3 <;> rw [hb2,hb3] at hres <;> simp only [if_true,if_false,Bool.false_eq_true] at hres
  all_goals
   replace hres:=Lib.hid hres
   have hway:=way0
   go_enter Tryz.func72,Tryz.ntmps72
   go_wp2_with (go_at_call 105;refine (grid_ways.calls _).mono ?_;rintro e w1 ⟨rfl,hb1⟩)
   generalize hW2 : w1.alloc (.cells #[.int .i64 0,.int .i64 1] 124) = W2
   have hB2 : Below w.heap.size w W2:=by rw [← hW2];exact (((Below.refl _ w).alloc (Nat.le_refl _) _).trans (hb1.mono (by simp))).alloc (by have:=hb1.size;simp at this;omega) _
   have hbx0 : W2.cell? ⟨w.heap.size,0,none⟩ = some (.int .i64 H):=by rw [← hW2];exact cell_old1 (cell_below1 hb1 (by simp)) _
   have hbx1 : W2.cell? ⟨w.heap.size,1,none⟩ = some (.int .i64 W):=by rw [← hW2];exact cell_old1 (cell_below1 hb1 (by simp)) _
   have hbx2 : W2.cell? ⟨w.heap.size,2,none⟩ = some (.slice (some ad2) l2.length c2):=by rw [← hW2];exact cell_old1 (cell_below1 hb1 (by simp)) _
   have hbx3 : W2.cell? ⟨w.heap.size,3,none⟩ = some (.slice (some ad3) l3.length c3):=by rw [← hW2];exact cell_old1 (cell_below1 hb1 (by simp)) _
   have hbx4 : W2.cell? ⟨w.heap.size,4,none⟩ = some (.slice A4 l4.length c4):=by rw [← hW2];exact cell_old1 (cell_below1 hb1 (by simp)) _
   have hby0 : W2.cell? ⟨w1.heap.size,0,none⟩ = some (.int .i64 0):=by rw [← hW2];simp
   have hby1 : W2.cell? ⟨w1.heap.size,1,none⟩ = some (.int .i64 1):=by rw [← hW2];simp
   replace hx2:=cell_below1 hB2 hx2
   replace hx3:=cell_below1 hB2 hx3
   clear hW2
   go_quiet (fail)
   go_wp2
  all_goals go_ret2
  all_goals rw [hres.out]
  all_goals exact ⟨rfl,pw_below_drewN hB2 _⟩
 ·have hres : gstep H W l2 l3 l4 i 0 = (0,false):=by
   unfold gstep
   simp only [show (gby 0).1 = 0 from rfl,show (gby 0).2 = 1 from rfl,hq,hm,Int.add_zero]
   rw [if_pos (by omega)]
  replace hres:=Lib.hid hres
  have hway:=way0
  clear hl hi hn hsum hH hW hp2v hin
  go_enter Tryz.func72,Tryz.ntmps72
  go_wp2_with (go_at_call 105;refine (grid_ways.calls _).mono ?_;rintro e w1 ⟨rfl,hb1⟩)
  generalize hW2 : w1.alloc (.cells #[.int .i64 0,.int .i64 1] 124) = W2
  have hB2 : Below w.heap.size w W2:=by rw [← hW2];exact (((Below.refl _ w).alloc (Nat.le_refl _) _).trans (hb1.mono (by simp))).alloc (by have:=hb1.size;simp at this;omega) _
  have hbx0 : W2.cell? ⟨w.heap.size,0,none⟩ = some (.int .i64 H):=by rw [← hW2];exact cell_old1 (cell_below1 hb1 (by simp)) _
  have hbx1 : W2.cell? ⟨w.heap.size,1,none⟩ = some (.int .i64 W):=by rw [← hW2];exact cell_old1 (cell_below1 hb1 (by simp)) _
  have hby0 : W2.cell? ⟨w1.heap.size,0,none⟩ = some (.int .i64 0):=by rw [← hW2];simp
  have hby1 : W2.cell? ⟨w1.heap.size,1,none⟩ = some (.int .i64 1):=by rw [← hW2];simp
  clear hW2
  go_quiet (fail)
  go_wp2
  all_goals go_ret2
  all_goals rw [hres.out]
  all_goals exact ⟨rfl,pw_below_drewN hB2 _⟩
set_option maxHeartbeats 4000000 in
set_option maxRecDepth 1000000 in
theorem grid_step1 (H W : Int) (A2 : Option Addr) (c2 : Nat) (l2 : List Bool) (A3 : Option Addr) (c3 : Nat) (l3 : List Bool) (A4 : Option Addr) (c4 : Nat) (l4 : List Bool) (i : Int) (w : World)
  (h2 : Kd.C Kd.bool w A2 l2.length l2) (h3 : Kd.C Kd.bool w A3 l3.length l3) (h4 : Kd.C Kd.bool w A4 l4.length l4)
  (hH : 1 ≤ H ∧ H ≤ 16) (hW : 1 ≤ W ∧ W ≤ 16) (hl : (l2.length : Int) = H * W ∧ (l3.length : Int) = H * W ∧ (l4.length : Int) = H * W) (hi : 0 ≤ i ∧ i < H * W) :
  Calls Tryz.prog 72 #[.agg #[.int .i64 H,.int .i64 W,.slice A2 l2.length c2,.slice A3 l3.length c3,.slice A4 l4.length c4],.int .i64 i,.int .i64 1] w (StepPost (gstep H W l2 l3 l4 i 1) w):=by
 obtain ⟨q,hq⟩ : ∃ q,i / W = q:=⟨_,rfl⟩
 obtain ⟨m,hm⟩ : ∃ m,i % W = m:=⟨_,rfl⟩
 obtain ⟨p,hp⟩ : ∃ p,q * W = p:=⟨_,rfl⟩
 obtain ⟨p2,hp2⟩ : ∃ p2,(q + 1) * W = p2:=⟨_,rfl⟩
 obtain ⟨n,hn⟩ : ∃ n,H * W = n:=⟨_,rfl⟩
 have hi0:=hi.1
 have hW1:=hW.1
 have hW2:=hW.2
 have hH1:=hH.1
 have hH2:=hH.2
 have hm0 : 0 ≤ m:=by rw [← hm];exact Int.emod_nonneg _ (by omega)
 have hmW : m < W:=by rw [← hm];exact Int.emod_lt_of_pos _ (by omega)
 have hsum : p + m = i:=by rw [← hp,← hq,← hm];have:=Int.mul_ediv_add_emod i W;rw [Int.mul_comm];omega
 have hq0 : 0 ≤ q:=by rw [← hq];exact Int.ediv_nonneg hi0 (by omega)
 have hqH : q < H:=by rw [← hq];exact Int.ediv_lt_of_lt_mul (by omega) hi.2
 have hp0 : 0 ≤ p:=by rw [← hp];exact Int.mul_nonneg hq0 (by omega)
 have hpn : p + W ≤ n:=by
  have h1 : (q + 1) * W ≤ H * W:=Int.mul_le_mul_of_nonneg_right (by omega) (by omega)
  rw [Int.add_mul,Int.one_mul] at h1
  omega
 have hn256 : n ≤ 256:=by
  have h1 : H * W ≤ 16 * 16:=Int.mul_le_mul hH2 hW2 (by omega) (by omega)
  omega
 have hp2v : p2 = p + 1 * W:=by rw [← hp2,Int.add_mul,hp]
 have hin : q + 1 < H → 0 ≤ p2 ∧ p2 + W ≤ n:=by
  intro hc
  have h1 : (q + 1 + 1) * W ≤ H * W:=Int.mul_le_mul_of_nonneg_right (by omega) (by omega)
  have h0 : 0 * W ≤ (q + 1) * W:=Int.mul_le_mul_of_nonneg_right (by omega) (by omega)
  rw [Int.add_mul,Int.one_mul] at h1
  rw [Int.zero_mul,hp2] at h0
  rw [hp2] at h1
  omega
 have hdq : wrap64 (i.tdiv W) = q:=by
  rw [Int.tdiv_eq_ediv_of_nonneg hi0,hq]
  unfold wrap64
  omega
 have hqq : wrap64 q = q:=by unfold wrap64;omega
 have hqw : wrap64 ((q + 1) * W) = p2:=by rw [hp2];unfold wrap64;omega
 rw [hn] at hl hi
 by_cases hc : q + 1 < H
 ·have hin:=hin hc
  obtain ⟨ad2,rfl,hx2⟩:=Kd.at_bool h2 (p2 + m) (by omega) (by omega)
  obtain ⟨ad3,rfl,hx3⟩:=Kd.at_bool h4 i (by omega) (by omega)
  have hres : gstep H W l2 l3 l4 i 1 = if rdOf false l2 (p2 + m) then (0,false) else if rdOf false l4 i then (0,false) else ((p2 + m),true):=by
   unfold gstep gat rdOf
   simp only [show (gby 1).1 = 1 from rfl,show (gby 1).2 = 0 from rfl,hq,hm,Int.add_zero]
   rw [hp2]
   rw [if_neg (by omega),Int.min_eq_left (by omega)]
   simp
  have hmn : ¬ ((p2 + m) < i):=by omega
  have hil : i < (l4.length : Int):=by omega
  have hjl : (p2 + m) < (l2.length : Int):=by omega
  have hj0 : 0 ≤ (p2 + m):=by omega
  clear hl hi hn hsum hH hW hp2v
  cases hb2 : rdOf false l2 (p2 + m) <;> cases hb3 : rdOf false l4 i <;> rw [hb2] at hx2 <;> rw [hb3] at hx3 <;> rw [hb2,hb3] at hres <;> simp only [if_true,if_false,Bool.false_eq_true] at hres
  all_goals
   replace hres:=Lib.hid hres
   have hway:=way1
   go_enter Tryz.func72,Tryz.ntmps72
   go_wp2_with (go_at_call 105;refine (grid_ways.calls _).mono ?_;rintro e w1 ⟨rfl,hb1⟩)
   generalize hW2 : w1.alloc (.cells #[.int .i64 1,.int .i64 0] 124) = W2
   have hB2 : Below w.heap.size w W2:=by rw [← hW2];exact (((Below.refl _ w).alloc (Nat.le_refl _) _).trans (hb1.mono (by simp))).alloc (by have:=hb1.size;simp at this;omega) _
   have hbx0 : W2.cell? ⟨w.heap.size,0,none⟩ = some (.int .i64 H):=by rw [← hW2];exact cell_old1 (cell_below1 hb1 (by simp)) _
   have hbx1 : W2.cell? ⟨w.heap.size,1,none⟩ = some (.int .i64 W):=by rw [← hW2];exact cell_old1 (cell_below1 hb1 (by simp)) _
   have hbx2 : W2.cell? ⟨w.heap.size,2,none⟩ = some (.slice (some ad2) l2.length c2):=by rw [← hW2];exact cell_old1 (cell_below1 hb1 (by simp)) _
   have hbx3 : W2.cell? ⟨w.heap.size,3,none⟩ = some (.slice A3 l3.length c3):=by rw [← hW2];exact cell_old1 (cell_below1 hb1 (by simp)) _
   have hbx4 : W2.cell? ⟨w.heap.size,4,none⟩ = some (.slice (some ad3) l4.length c4):=by rw [← hW2];exact cell_old1 (cell_below1 hb1 (by simp)) _
   have hby0 : W2.cell? ⟨w1.heap.size,0,none⟩ = some (.int .i64 1):=by rw [← hW2];simp
   have hby1 : W2.cell? ⟨w1.heap.size,1,none⟩ = some (.int .i64 0):=by rw [← hW2];simp
   replace hx2:=cell_below1 hB2 hx2
   replace hx3:=cell_below1 hB2 hx3
   clear hW2
   go_quiet (fail)
   go_wp2
  all_goals go_ret2
  all_goals rw [hres.out]
  all_goals exact ⟨rfl,pw_below_drewN hB2 _⟩
 ·have hres : gstep H W l2 l3 l4 i 1 = (0,false):=by
   unfold gstep
   simp only [show (gby 1).1 = 1 from rfl,show (gby 1).2 = 0 from rfl,hq,hm,Int.add_zero]
   rw [if_pos (by omega)]
  replace hres:=Lib.hid hres
  have hway:=way1
  clear hl hi hn hsum hH hW hp2v hin
  go_enter Tryz.func72,Tryz.ntmps72
  go_wp2_with (go_at_call 105;refine (grid_ways.calls _).mono ?_;rintro e w1 ⟨rfl,hb1⟩)
  generalize hW2 : w1.alloc (.cells #[.int .i64 1,.int .i64 0] 124) = W2
  have hB2 : Below w.heap.size w W2:=by rw [← hW2];exact (((Below.refl _ w).alloc (Nat.le_refl _) _).trans (hb1.mono (by simp))).alloc (by have:=hb1.size;simp at this;omega) _
  have hbx0 : W2.cell? ⟨w.heap.size,0,none⟩ = some (.int .i64 H):=by rw [← hW2];exact cell_old1 (cell_below1 hb1 (by simp)) _
  have hbx1 : W2.cell? ⟨w.heap.size,1,none⟩ = some (.int .i64 W):=by rw [← hW2];exact cell_old1 (cell_below1 hb1 (by simp)) _
  have hby0 : W2.cell? ⟨w1.heap.size,0,none⟩ = some (.int .i64 1):=by rw [← hW2];simp
  have hby1 : W2.cell? ⟨w1.heap.size,1,none⟩ = some (.int .i64 0):=by rw [← hW2];simp
  clear hW2
  go_quiet (fail)
  go_wp2
  all_goals go_ret2
  all_goals rw [hres.out]
  all_goals exact ⟨rfl,pw_below_drewN hB2 _⟩
set_option maxHeartbeats 4000000 in
set_option maxRecDepth 1000000 in
theorem grid_step2 (H W : Int) (A2 : Option Addr) (c2 : Nat) (l2 : List Bool) (A3 : Option Addr) (c3 : Nat) (l3 : List Bool) (A4 : Option Addr) (c4 : Nat) (l4 : List Bool) (i : Int) (w : World)
  (h2 : Kd.C Kd.bool w A2 l2.length l2) (h3 : Kd.C Kd.bool w A3 l3.length l3) (h4 : Kd.C Kd.bool w A4 l4.length l4)
  (hH : 1 ≤ H ∧ H ≤ 16) (hW : 1 ≤ W ∧ W ≤ 16) (hl : (l2.length : Int) = H * W ∧ (l3.length : Int) = H * W ∧ (l4.length : Int) = H * W) (hi : 0 ≤ i ∧ i < H * W) :
  Calls Tryz.prog 72 #[.agg #[.int .i64 H,.int .i64 W,.slice A2 l2.length c2,.slice A3 l3.length c3,.slice A4 l4.length c4],.int .i64 i,.int .i64 2] w (StepPost (gstep H W l2 l3 l4 i 2) w):=by
 obtain ⟨q,hq⟩ : ∃ q,i / W = q:=⟨_,rfl⟩
 obtain ⟨m,hm⟩ : ∃ m,i % W = m:=⟨_,rfl⟩
 obtain ⟨p,hp⟩ : ∃ p,q * W = p:=⟨_,rfl⟩
 obtain ⟨p2,hp2⟩ : ∃ p2,(q + 0) * W = p2:=⟨_,rfl⟩
 obtain ⟨n,hn⟩ : ∃ n,H * W = n:=⟨_,rfl⟩
 have hi0:=hi.1
 have hW1:=hW.1
 have hW2:=hW.2
 have hH1:=hH.1
 have hH2:=hH.2
 have hm0 : 0 ≤ m:=by rw [← hm];exact Int.emod_nonneg _ (by omega)
 have hmW : m < W:=by rw [← hm];exact Int.emod_lt_of_pos _ (by omega)
 have hsum : p + m = i:=by rw [← hp,← hq,← hm];have:=Int.mul_ediv_add_emod i W;rw [Int.mul_comm];omega
 have hq0 : 0 ≤ q:=by rw [← hq];exact Int.ediv_nonneg hi0 (by omega)
 have hqH : q < H:=by rw [← hq];exact Int.ediv_lt_of_lt_mul (by omega) hi.2
 have hp0 : 0 ≤ p:=by rw [← hp];exact Int.mul_nonneg hq0 (by omega)
 have hpn : p + W ≤ n:=by
  have h1 : (q + 1) * W ≤ H * W:=Int.mul_le_mul_of_nonneg_right (by omega) (by omega)
  rw [Int.add_mul,Int.one_mul] at h1
  omega
 have hn256 : n ≤ 256:=by
  have h1 : H * W ≤ 16 * 16:=Int.mul_le_mul hH2 hW2 (by omega) (by omega)
  omega
 have hp2v : p2 = p + 0 * W:=by rw [← hp2,Int.add_mul,hp]
 have hin : 0 ≤ m + -1 → 0 ≤ p2 ∧ p2 + W ≤ n:=by
  intro hc
  have h1 : (q + 1) * W ≤ H * W:=Int.mul_le_mul_of_nonneg_right (by omega) (by omega)
  have h0 : 0 * W ≤ (q + 0) * W:=Int.mul_le_mul_of_nonneg_right (by omega) (by omega)
  rw [Int.add_mul,Int.one_mul] at h1
  rw [Int.zero_mul,hp2] at h0
  rw [hp] at h1
  omega
 have hdq : wrap64 (i.tdiv W) = q:=by
  rw [Int.tdiv_eq_ediv_of_nonneg hi0,hq]
  unfold wrap64
  omega
 have hqq : wrap64 q = q:=by unfold wrap64;omega
 have hqw : wrap64 ((q + 0) * W) = p2:=by rw [hp2];unfold wrap64;omega
 have hp2p : p2 = p:=by omega
 subst hp2p
 rw [Int.add_zero] at hqw hp2
 rw [hn] at hl hi
 by_cases hc : 0 ≤ m + -1
 ·have hin:=hin hc
  obtain ⟨ad2,rfl,hx2⟩:=Kd.at_bool h2 (p2 + (m + -1)) (by omega) (by omega)
  obtain ⟨ad3,rfl,hx3⟩:=Kd.at_bool h3 (p2 + (m + -1)) (by omega) (by omega)
  have hres : gstep H W l2 l3 l4 i 2 = if rdOf false l2 (p2 + (m + -1)) then (0,false) else if rdOf false l3 (p2 + (m + -1)) then (0,false) else ((p2 + (m + -1)),true):=by
   unfold gstep gat rdOf
   simp only [show (gby 2).1 = 0 from rfl,show (gby 2).2 = (-1) from rfl,hq,hm,Int.add_zero]
   rw [hp]
   rw [if_neg (by omega),Int.min_eq_right (by omega)]
   simp
  have hmn : (p2 + (m + -1)) < i:=by omega
  have hil : (p2 + (m + -1)) < (l3.length : Int):=by omega
  have hjl : (p2 + (m + -1)) < (l2.length : Int):=by omega
  have hj0 : 0 ≤ (p2 + (m + -1)):=by omega
  clear hl hi hn hsum hH hW hp2v
  cases hb2 : rdOf false l2 (p2 + (m + -1)) <;> cases hb3 : rdOf false l3 (p2 + (m + -1)) <;> rw [hb2] at hx2 <;> rw [hb3] at hx3 <;> rw [hb2,hb3] at hres <;> simp only [if_true,if_false,Bool.false_eq_true] at hres
  all_goals
   replace hres:=Lib.hid hres
   have hway:=way2
   go_enter Tryz.func72,Tryz.ntmps72
   go_wp2_with (go_at_call 105;refine (grid_ways.calls _).mono ?_;rintro e w1 ⟨rfl,hb1⟩)
   generalize hW2 : w1.alloc (.cells #[.int .i64 0,.int .i64 (-1)] 124) = W2
   have hB2 : Below w.heap.size w W2:=by rw [← hW2];exact (((Below.refl _ w).alloc (Nat.le_refl _) _).trans (hb1.mono (by simp))).alloc (by have:=hb1.size;simp at this;omega) _
   have hbx0 : W2.cell? ⟨w.heap.size,0,none⟩ = some (.int .i64 H):=by rw [← hW2];exact cell_old1 (cell_below1 hb1 (by simp)) _
   have hbx1 : W2.cell? ⟨w.heap.size,1,none⟩ = some (.int .i64 W):=by rw [← hW2];exact cell_old1 (cell_below1 hb1 (by simp)) _
   have hbx2 : W2.cell? ⟨w.heap.size,2,none⟩ = some (.slice (some ad2) l2.length c2):=by rw [← hW2];exact cell_old1 (cell_below1 hb1 (by simp)) _
   have hbx3 : W2.cell? ⟨w.heap.size,3,none⟩ = some (.slice (some ad3) l3.length c3):=by rw [← hW2];exact cell_old1 (cell_below1 hb1 (by simp)) _
   have hbx4 : W2.cell? ⟨w.heap.size,4,none⟩ = some (.slice A4 l4.length c4):=by rw [← hW2];exact cell_old1 (cell_below1 hb1 (by simp)) _
   have hby0 : W2.cell? ⟨w1.heap.size,0,none⟩ = some (.int .i64 0):=by rw [← hW2];simp
   have hby1 : W2.cell? ⟨w1.heap.size,1,none⟩ = some (.int .i64 (-1)):=by rw [← hW2];simp
   replace hx2:=cell_below1 hB2 hx2
   replace hx3:=cell_below1 hB2 hx3
   clear hW2
   go_quiet (fail)
   go_wp2
  all_goals go_ret2
  all_goals rw [hres.out]
  all_goals exact ⟨rfl,pw_below_drewN hB2 _⟩
 ·have hres : gstep H W l2 l3 l4 i 2 = (0,false):=by
   unfold gstep
   simp only [show (gby 2).1 = 0 from rfl,show (gby 2).2 = (-1) from rfl,hq,hm,Int.add_zero]
   rw [if_pos (by omega)]
  replace hres:=Lib.hid hres
  have hway:=way2
  clear hl hi hn hsum hH hW hp2v hin
  go_enter Tryz.func72,Tryz.ntmps72
  go_wp2_with (go_at_call 105;refine (grid_ways.calls _).mono ?_;rintro e w1 ⟨rfl,hb1⟩)
  generalize hW2 : w1.alloc (.cells #[.int .i64 0,.int .i64 (-1)] 124) = W2
  have hB2 : Below w.heap.size w W2:=by rw [← hW2];exact (((Below.refl _ w).alloc (Nat.le_refl _) _).trans (hb1.mono (by simp))).alloc (by have:=hb1.size;simp at this;omega) _
  have hbx0 : W2.cell? ⟨w.heap.size,0,none⟩ = some (.int .i64 H):=by rw [← hW2];exact cell_old1 (cell_below1 hb1 (by simp)) _
  have hbx1 : W2.cell? ⟨w.heap.size,1,none⟩ = some (.int .i64 W):=by rw [← hW2];exact cell_old1 (cell_below1 hb1 (by simp)) _
  have hby0 : W2.cell? ⟨w1.heap.size,0,none⟩ = some (.int .i64 0):=by rw [← hW2];simp
  have hby1 : W2.cell? ⟨w1.heap.size,1,none⟩ = some (.int .i64 (-1)):=by rw [← hW2];simp
  clear hW2
  go_quiet (fail)
  go_wp2
  all_goals go_ret2
  all_goals rw [hres.out]
  all_goals exact ⟨rfl,pw_below_drewN hB2 _⟩
set_option maxHeartbeats 4000000 in
set_option maxRecDepth 1000000 in
theorem grid_step3 (H W : Int) (A2 : Option Addr) (c2 : Nat) (l2 : List Bool) (A3 : Option Addr) (c3 : Nat) (l3 : List Bool) (A4 : Option Addr) (c4 : Nat) (l4 : List Bool) (i : Int) (w : World)
  (h2 : Kd.C Kd.bool w A2 l2.length l2) (h3 : Kd.C Kd.bool w A3 l3.length l3) (h4 : Kd.C Kd.bool w A4 l4.length l4)
  (hH : 1 ≤ H ∧ H ≤ 16) (hW : 1 ≤ W ∧ W ≤ 16) (hl : (l2.length : Int) = H * W ∧ (l3.length : Int) = H * W ∧ (l4.length : Int) = H * W) (hi : 0 ≤ i ∧ i < H * W) :
  Calls Tryz.prog 72 #[.agg #[.int .i64 H,.int .i64 W,.slice A2 l2.length c2,.slice A3 l3.length c3,.slice A4 l4.length c4],.int .i64 i,.int .i64 3] w (StepPost (gstep H W l2 l3 l4 i 3) w):=by
 obtain ⟨q,hq⟩ : ∃ q,i / W = q:=⟨_,rfl⟩
 obtain ⟨m,hm⟩ : ∃ m,i % W = m:=⟨_,rfl⟩
 obtain ⟨p,hp⟩ : ∃ p,q * W = p:=⟨_,rfl⟩
 obtain ⟨p2,hp2⟩ : ∃ p2,(q + (-1)) * W = p2:=⟨_,rfl⟩
 obtain ⟨n,hn⟩ : ∃ n,H * W = n:=⟨_,rfl⟩
 have hi0:=hi.1
 have hW1:=hW.1
 have hW2:=hW.2
 have hH1:=hH.1
 have hH2:=hH.2
 have hm0 : 0 ≤ m:=by rw [← hm];exact Int.emod_nonneg _ (by omega)
 have hmW : m < W:=by rw [← hm];exact Int.emod_lt_of_pos _ (by omega)
 have hsum : p + m = i:=by rw [← hp,← hq,← hm];have:=Int.mul_ediv_add_emod i W;rw [Int.mul_comm];omega
 have hq0 : 0 ≤ q:=by rw [← hq];exact Int.ediv_nonneg hi0 (by omega)
 have hqH : q < H:=by rw [← hq];exact Int.ediv_lt_of_lt_mul (by omega) hi.2
 have hp0 : 0 ≤ p:=by rw [← hp];exact Int.mul_nonneg hq0 (by omega)
 have hpn : p + W ≤ n:=by
  have h1 : (q + 1) * W ≤ H * W:=Int.mul_le_mul_of_nonneg_right (by omega) (by omega)
  rw [Int.add_mul,Int.one_mul] at h1
  omega
 have hn256 : n ≤ 256:=by
  have h1 : H * W ≤ 16 * 16:=Int.mul_le_mul hH2 hW2 (by omega) (by omega)
  omega
 have hp2v : p2 = p + (-1) * W:=by rw [← hp2,Int.add_mul,hp]
 have hin : 0 ≤ q + -1 → 0 ≤ p2 ∧ p2 + W ≤ n:=by
  intro hc
  have h1 : (q + -1 + 1) * W ≤ H * W:=Int.mul_le_mul_of_nonneg_right (by omega) (by omega)
  have h0 : 0 * W ≤ (q + (-1)) * W:=Int.mul_le_mul_of_nonneg_right (by omega) (by omega)
  rw [Int.add_mul,Int.one_mul] at h1
  rw [Int.zero_mul,hp2] at h0
  rw [hp2] at h1
  omega
 have hdq : wrap64 (i.tdiv W) = q:=by
  rw [Int.tdiv_eq_ediv_of_nonneg hi0,hq]
  unfold wrap64
  omega
 have hqq : wrap64 q = q:=by unfold wrap64;omega
 have hqw : wrap64 ((q + (-1)) * W) = p2:=by rw [hp2];unfold wrap64;omega
 rw [hn] at hl hi
 by_cases hc : 0 ≤ q + -1
 ·have hin:=hin hc
  obtain ⟨ad2,rfl,hx2⟩:=Kd.at_bool h2 (p2 + m) (by omega) (by omega)
  obtain ⟨ad3,rfl,hx3⟩:=Kd.at_bool h4 (p2 + m) (by omega) (by omega)
  have hres : gstep H W l2 l3 l4 i 3 = if rdOf false l2 (p2 + m) then (0,false) else if rdOf false l4 (p2 + m) then (0,false) else ((p2 + m),true):=by
   unfold gstep gat rdOf
   simp only [show (gby 3).1 = (-1) from rfl,show (gby 3).2 = 0 from rfl,hq,hm,Int.add_zero]
   rw [hp2]
   rw [if_neg (by omega),Int.min_eq_right (by omega)]
   simp
  have hmn : (p2 + m) < i:=by omega
  have hil : (p2 + m) < (l4.length : Int):=by omega
  have hjl : (p2 + m) < (l2.length : Int):=by omega
  have hj0 : 0 ≤ (p2 + m):=by omega
  clear hl hi hn hsum hH hW hp2v
  cases hb2 : rdOf false l2 (p2 + m) <;> cases hb3 : rdOf false l4 (p2 + m) <;> rw [hb2] at hx2 <;> rw [hb3] at hx3 <;> rw [hb2,hb3] at hres <;> simp only [if_true,if_false,Bool.false_eq_true] at hres
  all_goals
   replace hres:=Lib.hid hres
   have hway:=way3
   go_enter Tryz.func72,Tryz.ntmps72
   go_wp2_with (go_at_call 105;refine (grid_ways.calls _).mono ?_;rintro e w1 ⟨rfl,hb1⟩)
   generalize hW2 : w1.alloc (.cells #[.int .i64 (-1),.int .i64 0] 124) = W2
   have hB2 : Below w.heap.size w W2:=by rw [← hW2];exact (((Below.refl _ w).alloc (Nat.le_refl _) _).trans (hb1.mono (by simp))).alloc (by have:=hb1.size;simp at this;omega) _
   have hbx0 : W2.cell? ⟨w.heap.size,0,none⟩ = some (.int .i64 H):=by rw [← hW2];exact cell_old1 (cell_below1 hb1 (by simp)) _
   have hbx1 : W2.cell? ⟨w.heap.size,1,none⟩ = some (.int .i64 W):=by rw [← hW2];exact cell_old1 (cell_below1 hb1 (by simp)) _
   have hbx2 : W2.cell? ⟨w.heap.size,2,none⟩ = some (.slice (some ad2) l2.length c2):=by rw [← hW2];exact cell_old1 (cell_below1 hb1 (by simp)) _
   have hbx3 : W2.cell? ⟨w.heap.size,3,none⟩ = some (.slice A3 l3.length c3):=by rw [← hW2];exact cell_old1 (cell_below1 hb1 (by simp)) _
   have hbx4 : W2.cell? ⟨w.heap.size,4,none⟩ = some (.slice (some ad3) l4.length c4):=by rw [← hW2];exact cell_old1 (cell_below1 hb1 (by simp)) _
   have hby0 : W2.cell? ⟨w1.heap.size,0,none⟩ = some (.int .i64 (-1)):=by rw [← hW2];simp
   have hby1 : W2.cell? ⟨w1.heap.size,1,none⟩ = some (.int .i64 0):=by rw [← hW2];simp
   replace hx2:=cell_below1 hB2 hx2
   replace hx3:=cell_below1 hB2 hx3
   clear hW2
   go_quiet (fail)
   go_wp2
  all_goals go_ret2
  all_goals rw [hres.out]
  all_goals exact ⟨rfl,pw_below_drewN hB2 _⟩
 ·have hres : gstep H W l2 l3 l4 i 3 = (0,false):=by
   unfold gstep
   simp only [show (gby 3).1 = (-1) from rfl,show (gby 3).2 = 0 from rfl,hq,hm,Int.add_zero]
   rw [if_pos (by omega)]
  replace hres:=Lib.hid hres
  have hway:=way3
  clear hl hi hn hsum hH hW hp2v hin
  go_enter Tryz.func72,Tryz.ntmps72
  go_wp2_with (go_at_call 105;refine (grid_ways.calls _).mono ?_;rintro e w1 ⟨rfl,hb1⟩)
  generalize hW2 : w1.alloc (.cells #[.int .i64 (-1),.int .i64 0] 124) = W2
  have hB2 : Below w.heap.size w W2:=by rw [← hW2];exact (((Below.refl _ w).alloc (Nat.le_refl _) _).trans (hb1.mono (by simp))).alloc (by have:=hb1.size;simp at this;omega) _
  have hbx0 : W2.cell? ⟨w.heap.size,0,none⟩ = some (.int .i64 H):=by rw [← hW2];exact cell_old1 (cell_below1 hb1 (by simp)) _
  have hbx1 : W2.cell? ⟨w.heap.size,1,none⟩ = some (.int .i64 W):=by rw [← hW2];exact cell_old1 (cell_below1 hb1 (by simp)) _
  have hby0 : W2.cell? ⟨w1.heap.size,0,none⟩ = some (.int .i64 (-1)):=by rw [← hW2];simp
  have hby1 : W2.cell? ⟨w1.heap.size,1,none⟩ = some (.int .i64 0):=by rw [← hW2];simp
  clear hW2
  go_quiet (fail)
  go_wp2
  all_goals go_ret2
  all_goals rw [hres.out]
  all_goals exact ⟨rfl,pw_below_drewN hB2 _⟩
theorem grid_step.calls (a0_0 : Int) (a0_1 : Int) (A0_2 : Option Addr) (c0_2 : Nat) (l0_2 : List Bool) (A0_3 : Option Addr) (c0_3 : Nat) (l0_3 : List Bool) (A0_4 : Option Addr) (c0_4 : Nat) (l0_4 : List Bool) (a1 : Int) (a2 : Int) (r1 : Int) (r2 : Bool) (w : World) (hr0_2 : Kd.C Kd.bool w A0_2 l0_2.length l0_2) (hc0_2 : l0_2.length ≤ c0_2) (hr0_3 : Kd.C Kd.bool w A0_3 l0_3.length l0_3) (hc0_3 : l0_3.length ≤ c0_3) (hr0_4 : Kd.C Kd.bool w A0_4 l0_4.length l0_4) (hc0_4 : l0_4.length ≤ c0_4) (h : grid_step.f a0_0 a0_1 l0_2 l0_3 l0_4 a1 a2 = some (r1,r2)) :
  Calls Tryz.prog 72 #[.agg #[.int .i64 a0_0,.int .i64 a0_1,.slice A0_2 l0_2.length c0_2,.slice A0_3 l0_3.length c0_3,.slice A0_4 l0_4.length c0_4],.int .i64 a1,.int .i64 a2] w fun e w'=>e = .returned (.tuple #[.int .i64 r1,.bool r2]) ∧ Below w.heap.size w w':=by
 obtain ⟨⟨hH,hW,hl,hi,hw⟩,he⟩:=guard_some h
 clear h
 have h4 : a2 = 0 ∨ a2 = 1 ∨ a2 = 2 ∨ a2 = 3:=by omega
 have hf : ∀ e w',StepPost (gstep a0_0 a0_1 l0_2 l0_3 l0_4 a1 a2) w e w' → e = .returned (.tuple #[.int .i64 r1,.bool r2]) ∧ Below w.heap.size w w':=by
  rintro e w' ⟨rfl,hb⟩
  rw [he]
  exact ⟨rfl,hb⟩
 rcases h4 with rfl | rfl | rfl | rfl
 ·exact (grid_step0 _ _ _ _ _ _ _ _ _ _ _ _ _ hr0_2 hr0_3 hr0_4 hH hW hl hi).mono hf
 ·exact (grid_step1 _ _ _ _ _ _ _ _ _ _ _ _ _ hr0_2 hr0_3 hr0_4 hH hW hl hi).mono hf
 ·exact (grid_step2 _ _ _ _ _ _ _ _ _ _ _ _ _ hr0_2 hr0_3 hr0_4 hH hW hl hi).mono hf
 ·exact (grid_step3 _ _ _ _ _ _ _ _ _ _ _ _ _ hr0_2 hr0_3 hr0_4 hH hW hl hi).mono hf
end Go.Proofs.YtpfbcepgmigeiaaGreatDoor.Q
end
section
namespace Go.Proofs.YtpfbcepgmigeiaaGreatDoor.Q
open Go.RowKit Go.Proofs.YtpfbcepgmigeiaaGreatDoorW.PrintWords Go.Proofs.YtpfbcepgmigeiaaGreatDoorW.PrintLast Go.Proofs.YtpfbcepgmigeiaaGreatDoorW.PrintMore
attribute [local go_sem] max2_int min2_int max_two min_two max_three min_three max_four min_four
set_option linter.unusedVariables false
set_option linter.unusedSimpArgs false
def grid_Step.f (k : Nat) (a0_0 : Int) (a0_1 : Int) (l0_2 : List Bool) (l0_3 : List Bool) (l0_4 : List Bool) (a1 : Int) (a2 : Int) : Option (Int × Bool):=if a2 < 0 then (some (0,false)) else (if a2 > 3 then (some (0,false)) else ((grid_Open.f k a0_0 a0_1 l0_2 l0_3 l0_4 a1).bind fun t117=>(if t117 = true then ((grid_step.f a0_0 a0_1 l0_2 l0_3 l0_4 a1 a2).bind fun bt118=>(some (bt118.1,bt118.2))) else (some (0,false)))))
set_option maxHeartbeats 8000000 in
set_option maxRecDepth 100000 in
theorem grid_Step.calls (k : Nat) (a0_0 : Int) (a0_1 : Int) (A0_2 : Option Addr) (c0_2 : Nat) (l0_2 : List Bool) (A0_3 : Option Addr) (c0_3 : Nat) (l0_3 : List Bool) (A0_4 : Option Addr) (c0_4 : Nat) (l0_4 : List Bool) (a1 : Int) (a2 : Int) (r1 : Int) (r2 : Bool) (w : World) (hr0_2 : Kd.C Kd.bool w A0_2 l0_2.length l0_2) (hc0_2 : l0_2.length ≤ c0_2) (hr0_3 : Kd.C Kd.bool w A0_3 l0_3.length l0_3) (hc0_3 : l0_3.length ≤ c0_3) (hr0_4 : Kd.C Kd.bool w A0_4 l0_4.length l0_4) (hc0_4 : l0_4.length ≤ c0_4) (h : grid_Step.f k a0_0 a0_1 l0_2 l0_3 l0_4 a1 a2 = some (r1,r2)) :
  Calls Tryz.prog 42 #[.agg #[.int .i64 a0_0,.int .i64 a0_1,.slice A0_2 l0_2.length c0_2,.slice A0_3 l0_3.length c0_3,.slice A0_4 l0_4.length c0_4],.int .i64 a1,.int .i64 a2] w fun e w'=>e = .returned (.tuple #[.int .i64 r1,.bool r2]) ∧ Below w.heap.size w w':=by
 have hu24:=Tryz.underlying24
 have HR0_2:=Aside0.mk hr0_2
 have HC0_2:=Aside0.mk hc0_2
 clear hr0_2 hc0_2
 have HR0_3:=Aside0.mk hr0_3
 have HC0_3:=Aside0.mk hc0_3
 clear hr0_3 hc0_3
 have HR0_4:=Aside0.mk hr0_4
 have HC0_4:=Aside0.mk hc0_4
 clear hr0_4 hc0_4
 have HB:=Aside0.mk (Below.refl w.heap.size w)
 have H : (if a2 < 0 then (some (0,false)) else (if a2 > 3 then (some (0,false)) else ((grid_Open.f k a0_0 a0_1 l0_2 l0_3 l0_4 a1).bind fun t117=>(if t117 = true then ((grid_step.f a0_0 a0_1 l0_2 l0_3 l0_4 a1 a2).bind fun bt118=>(some (bt118.1,bt118.2))) else (some (0,false)))))) = some (r1,r2):=h
 clear h
 by_cases c4 : a2 < 0
 ·rw [if_pos c4] at H
  have c4b0 : decide (a2 < 0) = true:=decide_eq_true c4
  clear c4
  simp only [Option.some.injEq,Prod.mk.injEq] at H
  obtain ⟨rfl,rfl⟩:=H
  go_enter Tryz.func42,Tryz.ntmps42
  go_wp2_with (first | ((with_reducible refine gate_dst (N:=3) rfl ?_);refine box_event ?hg (N:=3) ?hd (cs:=#[.int .i64 a0_0,.int .i64 a0_1,.slice A0_2 l0_2.length c0_2,.slice A0_3 l0_3.length c0_3,.slice A0_4 l0_4.length c0_4]) (t:=24) ?hr ?_;(case hd=>rfl);(case hg=>rfl);(case hr=>first | (go_simp;done) | (go_simp;rfl));intro gb116 hg w5 hbox hb;have n0_:=Aside0.mk (below_step (by repeat (first | (with_reducible first | exact HB.out | apply below_alloc | apply pw_below_drewN | apply below_drew1) | exact HB.out)) hb);have n1_:=Aside0.mk (hbox);have n2_:=Aside0.mk ((by rw [hg];exact (below_size (by repeat (first | (with_reducible first | exact HB.out | apply below_alloc | apply pw_below_drewN | apply below_drew1) | exact HB.out))) : w.heap.size ≤ gb116));have n3_:=Aside0.mk ((by rw [hg];exact (below_size (by repeat (first | (with_reducible first | exact HB.out | apply below_alloc | apply pw_below_drewN | apply below_drew1) | exact HB.out))) : w.heap.size ≤ gb116));clear HB;have HB:=n0_;have BK116:=n1_;have GW116:=n2_;have GE116:=n3_;clear n0_ n1_ n2_ n3_;clear hb hbox hg))
  go_ret2
  exact ⟨by first | rfl | (simp [errW_none,errW_some] <;> rfl) | (simp [*,errW_none,errW_some] <;> rfl) | (exfalso;contradiction),by repeat (first | (with_reducible first | exact HB.out | apply below_alloc | apply pw_below_drewN | apply below_drew1 | refine below_set ?_ GE116.out) | exact HB.out)⟩
 ·rw [if_neg c4] at H
  have c4b0 : decide (a2 < 0) = false:=decide_eq_false c4
  clear c4
  by_cases c6 : a2 > 3
  ·rw [if_pos c6] at H
   have c6b0 : decide (3 < a2) = true:=decide_eq_true c6
   clear c6
   simp only [Option.some.injEq,Prod.mk.injEq] at H
   obtain ⟨rfl,rfl⟩:=H
   go_enter Tryz.func42,Tryz.ntmps42
   go_wp2_with (first | ((with_reducible refine gate_dst (N:=3) rfl ?_);refine box_event ?hg (N:=3) ?hd (cs:=#[.int .i64 a0_0,.int .i64 a0_1,.slice A0_2 l0_2.length c0_2,.slice A0_3 l0_3.length c0_3,.slice A0_4 l0_4.length c0_4]) (t:=24) ?hr ?_;(case hd=>rfl);(case hg=>rfl);(case hr=>first | (go_simp;done) | (go_simp;rfl));intro gb116 hg w7 hbox hb;have n0_:=Aside0.mk (below_step (by repeat (first | (with_reducible first | exact HB.out | apply below_alloc | apply pw_below_drewN | apply below_drew1) | exact HB.out)) hb);have n1_:=Aside0.mk (hbox);have n2_:=Aside0.mk ((by rw [hg];exact (below_size (by repeat (first | (with_reducible first | exact HB.out | apply below_alloc | apply pw_below_drewN | apply below_drew1) | exact HB.out))) : w.heap.size ≤ gb116));have n3_:=Aside0.mk ((by rw [hg];exact (below_size (by repeat (first | (with_reducible first | exact HB.out | apply below_alloc | apply pw_below_drewN | apply below_drew1) | exact HB.out))) : w.heap.size ≤ gb116));clear HB;have HB:=n0_;have BK116:=n1_;have GW116:=n2_;have GE116:=n3_;clear n0_ n1_ n2_ n3_;clear hb hbox hg))
   go_ret2
   exact ⟨by first | rfl | (simp [errW_none,errW_some] <;> rfl) | (simp [*,errW_none,errW_some] <;> rfl) | (exfalso;contradiction),by repeat (first | (with_reducible first | exact HB.out | apply below_alloc | apply pw_below_drewN | apply below_drew1 | refine below_set ?_ GE116.out) | exact HB.out)⟩
  ·rw [if_neg c6] at H
   have c6b0 : decide (3 < a2) = false:=decide_eq_false c6
   clear c6
   replace H:=Option.bind_eq_some_iff.mp H
   obtain ⟨t117,A80,H⟩:=H
   replace H : (if t117 = true then ((grid_step.f a0_0 a0_1 l0_2 l0_3 l0_4 a1 a2).bind fun bt118=>(some (bt118.1,bt118.2))) else (some (0,false))) = some (r1,r2):=H
   have A8:=Aside0.mk A80
   clear A80
   by_cases c9 : t117 = true
   ·subst c9
    have H1 : ((grid_step.f a0_0 a0_1 l0_2 l0_3 l0_4 a1 a2).bind fun bt118=>(some (bt118.1,bt118.2))) = some (r1,r2):=by rw [if_pos rfl] at H;exact H
    clear H
    have H:=H1
    clear H1
    replace H:=Option.bind_eq_some_iff.mp H
    obtain ⟨⟨t118,t119⟩,A100,H⟩:=H
    replace H : (some (t118,t119)) = some (r1,r2):=H
    have A10:=Aside0.mk A100
    clear A100
    simp only [Option.some.injEq,Prod.mk.injEq] at H
    obtain ⟨rfl,rfl⟩:=H
    go_enter Tryz.func42,Tryz.ntmps42
    go_wp2_with (first | ((with_reducible refine gate_dst (N:=3) rfl ?_);refine box_event ?hg (N:=3) ?hd (cs:=#[.int .i64 a0_0,.int .i64 a0_1,.slice A0_2 l0_2.length c0_2,.slice A0_3 l0_3.length c0_3,.slice A0_4 l0_4.length c0_4]) (t:=24) ?hr ?_;(case hd=>rfl);(case hg=>rfl);(case hr=>first | (go_simp;done) | (go_simp;rfl));intro gb116 hg w11 hbox hb;have n0_:=Aside0.mk (below_step (by repeat (first | (with_reducible first | exact HB.out | apply below_alloc | apply pw_below_drewN | apply below_drew1) | exact HB.out)) hb);have n1_:=Aside0.mk (hbox);have n2_:=Aside0.mk ((by rw [hg];exact (below_size (by repeat (first | (with_reducible first | exact HB.out | apply below_alloc | apply pw_below_drewN | apply below_drew1) | exact HB.out))) : w.heap.size ≤ gb116));have n3_:=Aside0.mk ((by rw [hg];exact (below_size (by repeat (first | (with_reducible first | exact HB.out | apply below_alloc | apply pw_below_drewN | apply below_drew1) | exact HB.out))) : w.heap.size ≤ gb116));clear HB;have HB:=n0_;have BK116:=n1_;have GW116:=n2_;have GE116:=n3_;clear n0_ n1_ n2_ n3_;clear hb hbox hg;have hcz12_0 : w11.cell? ⟨gb116,0,none⟩ = some (.int .i64 a0_0):=(blk_cell BK116.out 0).trans rfl;have hcz12_1 : w11.cell? ⟨gb116,1,none⟩ = some (.int .i64 a0_1):=(blk_cell BK116.out 1).trans rfl;have hcz12_2 : w11.cell? ⟨gb116,2,none⟩ = some (.slice A0_2 l0_2.length c0_2):=(blk_cell BK116.out 2).trans rfl;have hcz12_3 : w11.cell? ⟨gb116,3,none⟩ = some (.slice A0_3 l0_3.length c0_3):=(blk_cell BK116.out 3).trans rfl;have hcz12_4 : w11.cell? ⟨gb116,4,none⟩ = some (.slice A0_4 l0_4.length c0_4):=(blk_cell BK116.out 4).trans rfl;have hfz12_0:=blk_frozen BK116.out 0;have hfz12_1:=blk_frozen BK116.out 1;have hfz12_2:=blk_frozen BK116.out 2;have hfz12_3:=blk_frozen BK116.out 3;have hfz12_4:=blk_frozen BK116.out 4) | (go_at_call 71;(with_reducible refine (grid_Open.calls k a0_0 a0_1 _ _ l0_2 _ _ l0_3 _ _ l0_4 a1 true _ ?side1 ?side2 ?side3 ?side4 ?side5 ?side6 A8.out).mono ?_);(case side1=>repeat (first | exact (Kd.C_below HR0_2.out HB.out) | (with_reducible refine Kd.C_alloc ?_ _) | (with_reducible refine Kd.C_drewN ?_ _) | (with_reducible refine Kd.C_drew ?_)));(case side2=>exact HC0_2.out);(case side3=>repeat (first | exact (Kd.C_below HR0_3.out HB.out) | (with_reducible refine Kd.C_alloc ?_ _) | (with_reducible refine Kd.C_drewN ?_ _) | (with_reducible refine Kd.C_drew ?_)));(case side4=>exact HC0_3.out);(case side5=>repeat (first | exact (Kd.C_below HR0_4.out HB.out) | (with_reducible refine Kd.C_alloc ?_ _) | (with_reducible refine Kd.C_drewN ?_ _) | (with_reducible refine Kd.C_drew ?_)));(case side6=>exact HC0_4.out);rintro e w13 ⟨rfl,hb⟩;have n0_:=Aside0.mk (blk_below (g:=gb116) (o:=.cells #[.int .i64 a0_0,.int .i64 a0_1,.slice A0_2 l0_2.length c0_2,.slice A0_3 l0_3.length c0_3,.slice A0_4 l0_4.length c0_4] 24 (0,0)) (by (with_reducible repeat (first | refine blk_drewN ?_ _ | refine blk_drew ?_ | refine blk_alloc ?_ _));exact BK116.out) hb);have n1_:=Aside0.mk (below_step (by repeat (first | (with_reducible first | exact HB.out | apply below_alloc | apply pw_below_drewN | apply below_drew1 | refine below_set ?_ GE116.out) | exact HB.out)) hb);clear BK116;clear HB;have BK116:=n0_;have HB:=n1_;clear n0_ n1_;(try clear hb);(try clear hb2);(try clear hk);(try clear hi);have hcz14_0 : w13.cell? ⟨gb116,0,none⟩ = some (.int .i64 a0_0):=(blk_cell BK116.out 0).trans rfl;have hcz14_1 : w13.cell? ⟨gb116,1,none⟩ = some (.int .i64 a0_1):=(blk_cell BK116.out 1).trans rfl;have hcz14_2 : w13.cell? ⟨gb116,2,none⟩ = some (.slice A0_2 l0_2.length c0_2):=(blk_cell BK116.out 2).trans rfl;have hcz14_3 : w13.cell? ⟨gb116,3,none⟩ = some (.slice A0_3 l0_3.length c0_3):=(blk_cell BK116.out 3).trans rfl;have hcz14_4 : w13.cell? ⟨gb116,4,none⟩ = some (.slice A0_4 l0_4.length c0_4):=(blk_cell BK116.out 4).trans rfl;have hfz14_0:=blk_frozen BK116.out 0;have hfz14_1:=blk_frozen BK116.out 1;have hfz14_2:=blk_frozen BK116.out 2;have hfz14_3:=blk_frozen BK116.out 3;have hfz14_4:=blk_frozen BK116.out 4) | ((with_reducible refine gate_callee (f:=72) rfl ?_);refine goesL_ (some 23) rfl rfl Tryz.func72 (by kernel_rfl) rfl #[.agg #[.int .i64 a0_0,.int .i64 a0_1,.slice A0_2 l0_2.length c0_2,.slice A0_3 l0_3.length c0_3,.slice A0_4 l0_4.length c0_4],.int .i64 a1,.int .i64 a2] rfl (by (try simp only [List.map_toArray,List.map_cons,List.map_nil]);first | done | rfl | (simp only [List.length_drop,List.length_take];rfl)) ?_;(with_reducible refine (grid_step.calls a0_0 a0_1 _ _ l0_2 _ _ l0_3 _ _ l0_4 a1 a2 t118 t119 _ ?side1 ?side2 ?side3 ?side4 ?side5 ?side6 A10.out).mono ?_);(case side1=>repeat (first | exact (Kd.C_below HR0_2.out HB.out) | (with_reducible refine Kd.C_alloc ?_ _) | (with_reducible refine Kd.C_drewN ?_ _) | (with_reducible refine Kd.C_drew ?_)));(case side2=>exact HC0_2.out);(case side3=>repeat (first | exact (Kd.C_below HR0_3.out HB.out) | (with_reducible refine Kd.C_alloc ?_ _) | (with_reducible refine Kd.C_drewN ?_ _) | (with_reducible refine Kd.C_drew ?_)));(case side4=>exact HC0_3.out);(case side5=>repeat (first | exact (Kd.C_below HR0_4.out HB.out) | (with_reducible refine Kd.C_alloc ?_ _) | (with_reducible refine Kd.C_drewN ?_ _) | (with_reducible refine Kd.C_drew ?_)));(case side6=>exact HC0_4.out);rintro e w15 ⟨rfl,hb⟩;refine ⟨_,rfl,?_⟩;have n0_:=Aside0.mk (blk_below (g:=gb116) (o:=.cells #[.int .i64 a0_0,.int .i64 a0_1,.slice A0_2 l0_2.length c0_2,.slice A0_3 l0_3.length c0_3,.slice A0_4 l0_4.length c0_4] 24 (0,0)) (by (with_reducible repeat (first | refine blk_drewN ?_ _ | refine blk_drew ?_ | refine blk_alloc ?_ _));exact BK116.out) hb);have n1_:=Aside0.mk (below_step (by repeat (first | (with_reducible first | exact HB.out | apply below_alloc | apply pw_below_drewN | apply below_drew1 | refine below_set ?_ GE116.out) | exact HB.out)) hb);clear BK116;clear HB;have BK116:=n0_;have HB:=n1_;clear n0_ n1_;(try clear hb);(try clear hb2);(try clear hk);(try clear hi)))
    go_ret2
    exact ⟨by first | rfl | (simp [errW_none,errW_some] <;> rfl) | (simp [*,errW_none,errW_some] <;> rfl) | (exfalso;contradiction),by repeat (first | (with_reducible first | exact HB.out | apply below_alloc | apply pw_below_drewN | apply below_drew1 | refine below_set ?_ GE116.out) | exact HB.out)⟩
   ·replace c9:=Bool.eq_false_iff.mpr c9
    subst c9
    have H1 : (some (0,false)) = some (r1,r2):=by rw [if_neg (show ¬ (false = true) by decide)] at H;exact H
    clear H
    have H:=H1
    clear H1
    simp only [Option.some.injEq,Prod.mk.injEq] at H
    obtain ⟨rfl,rfl⟩:=H
    go_enter Tryz.func42,Tryz.ntmps42
    go_wp2_with (first | ((with_reducible refine gate_dst (N:=3) rfl ?_);refine box_event ?hg (N:=3) ?hd (cs:=#[.int .i64 a0_0,.int .i64 a0_1,.slice A0_2 l0_2.length c0_2,.slice A0_3 l0_3.length c0_3,.slice A0_4 l0_4.length c0_4]) (t:=24) ?hr ?_;(case hd=>rfl);(case hg=>rfl);(case hr=>first | (go_simp;done) | (go_simp;rfl));intro gb116 hg w16 hbox hb;have n0_:=Aside0.mk (below_step (by repeat (first | (with_reducible first | exact HB.out | apply below_alloc | apply pw_below_drewN | apply below_drew1) | exact HB.out)) hb);have n1_:=Aside0.mk (hbox);have n2_:=Aside0.mk ((by rw [hg];exact (below_size (by repeat (first | (with_reducible first | exact HB.out | apply below_alloc | apply pw_below_drewN | apply below_drew1) | exact HB.out))) : w.heap.size ≤ gb116));have n3_:=Aside0.mk ((by rw [hg];exact (below_size (by repeat (first | (with_reducible first | exact HB.out | apply below_alloc | apply pw_below_drewN | apply below_drew1) | exact HB.out))) : w.heap.size ≤ gb116));clear HB;have HB:=n0_;have BK116:=n1_;have GW116:=n2_;have GE116:=n3_;clear n0_ n1_ n2_ n3_;clear hb hbox hg;have hcz17_0 : w16.cell? ⟨gb116,0,none⟩ = some (.int .i64 a0_0):=(blk_cell BK116.out 0).trans rfl;have hcz17_1 : w16.cell? ⟨gb116,1,none⟩ = some (.int .i64 a0_1):=(blk_cell BK116.out 1).trans rfl;have hcz17_2 : w16.cell? ⟨gb116,2,none⟩ = some (.slice A0_2 l0_2.length c0_2):=(blk_cell BK116.out 2).trans rfl;have hcz17_3 : w16.cell? ⟨gb116,3,none⟩ = some (.slice A0_3 l0_3.length c0_3):=(blk_cell BK116.out 3).trans rfl;have hcz17_4 : w16.cell? ⟨gb116,4,none⟩ = some (.slice A0_4 l0_4.length c0_4):=(blk_cell BK116.out 4).trans rfl;have hfz17_0:=blk_frozen BK116.out 0;have hfz17_1:=blk_frozen BK116.out 1;have hfz17_2:=blk_frozen BK116.out 2;have hfz17_3:=blk_frozen BK116.out 3;have hfz17_4:=blk_frozen BK116.out 4) | (go_at_call 71;(with_reducible refine (grid_Open.calls k a0_0 a0_1 _ _ l0_2 _ _ l0_3 _ _ l0_4 a1 false _ ?side1 ?side2 ?side3 ?side4 ?side5 ?side6 A8.out).mono ?_);(case side1=>repeat (first | exact (Kd.C_below HR0_2.out HB.out) | (with_reducible refine Kd.C_alloc ?_ _) | (with_reducible refine Kd.C_drewN ?_ _) | (with_reducible refine Kd.C_drew ?_)));(case side2=>exact HC0_2.out);(case side3=>repeat (first | exact (Kd.C_below HR0_3.out HB.out) | (with_reducible refine Kd.C_alloc ?_ _) | (with_reducible refine Kd.C_drewN ?_ _) | (with_reducible refine Kd.C_drew ?_)));(case side4=>exact HC0_3.out);(case side5=>repeat (first | exact (Kd.C_below HR0_4.out HB.out) | (with_reducible refine Kd.C_alloc ?_ _) | (with_reducible refine Kd.C_drewN ?_ _) | (with_reducible refine Kd.C_drew ?_)));(case side6=>exact HC0_4.out);rintro e w18 ⟨rfl,hb⟩;have n0_:=Aside0.mk (blk_below (g:=gb116) (o:=.cells #[.int .i64 a0_0,.int .i64 a0_1,.slice A0_2 l0_2.length c0_2,.slice A0_3 l0_3.length c0_3,.slice A0_4 l0_4.length c0_4] 24 (0,0)) (by (with_reducible repeat (first | refine blk_drewN ?_ _ | refine blk_drew ?_ | refine blk_alloc ?_ _));exact BK116.out) hb);have n1_:=Aside0.mk (below_step (by repeat (first | (with_reducible first | exact HB.out | apply below_alloc | apply pw_below_drewN | apply below_drew1 | refine below_set ?_ GE116.out) | exact HB.out)) hb);clear BK116;clear HB;have BK116:=n0_;have HB:=n1_;clear n0_ n1_;(try clear hb);(try clear hb2);(try clear hk);(try clear hi)))
    go_ret2
    exact ⟨by first | rfl | (simp [errW_none,errW_some] <;> rfl) | (simp [*,errW_none,errW_some] <;> rfl) | (exfalso;contradiction),by repeat (first | (with_reducible first | exact HB.out | apply below_alloc | apply pw_below_drewN | apply below_drew1 | refine below_set ?_ GE116.out) | exact HB.out)⟩
end Go.Proofs.YtpfbcepgmigeiaaGreatDoor.Q
end
