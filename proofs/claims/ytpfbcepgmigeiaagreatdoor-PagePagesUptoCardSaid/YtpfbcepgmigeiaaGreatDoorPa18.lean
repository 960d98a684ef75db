/- PART 18 OF A PROOF: Lean functions, and that the program computes them; written by hand and by a program. Not trusted: Lean checks it. -/
import Derived.Test.YtpfbcepgmigeiaaGreatDoorPa9
import Derived.Test.YtpfbcepgmigeiaaGreatDoorPa17
set_option linter.unusedVariables false
set_option linter.unusedSimpArgs false
section
namespace Go.Proofs.YtpfbcepgmigeiaaGreatDoor.Q
open Go.RowKit Go.Proofs.YtpfbcepgmigeiaaGreatDoorW.PrintWords Go.Proofs.YtpfbcepgmigeiaaGreatDoorW.PrintLast Go.Proofs.YtpfbcepgmigeiaaGreatDoorW.PrintMore
set_option linter.unusedVariables false
set_option linter.unusedSimpArgs false
open Go.Proofs.YtpfbcepgmigeiaaGreatDoorS
set_option maxHeartbeats 8000000 in
set_option maxRecDepth 1000000 in
theorem rebusref05_Check.calls {H W : Int} {A2 : Option Addr} {c2 : Nat} {bl : List Bool} {A3 : Option Addr} {c3 : Nat} {ri : List Bool} {A4 : Option Addr} {c4 : Nat} {be : List Bool} {w : World} (h : GridC A2 c2 bl A3 c3 ri A4 c4 be w) :
    Calls Tryz.prog 51 #[.agg #[.int .i64 H,.int .i64 W,.slice A2 bl.length c2,.slice A3 ri.length c3,.slice A4 be.length c4]] w fun e w'=>e = .returned (.int .i64 (gcheck H W bl ri be)) ∧ Below w.heap.size w w':=by
  have hx:=box1 w (.cells #[.int .i64 H,.int .i64 W,.slice A2 bl.length c2,.slice A3 ri.length c3,.slice A4 be.length c4] 24)
  replace hx:=Lib.hid hx
  have hu24:=Tryz.underlying24
  obtain ⟨g0,g1,g2,g3,g4⟩:=cells5 hx.out.1
  have tok1 : True:=trivial
  have tok2 : True:=trivial
  cases hs1 : decide (1 ≤ H) && decide (H ≤ 16) with
  | false =>
    have hv : gcheck H W bl ri be = 50:=by
      have : gsides H W = false:=by
        unfold gsides
        rw [Bool.decide_and,hs1,Bool.false_and]
      unfold gcheck
      rw [if_pos this]
    rw [hv]
    clear hv
    go_enter Tryz.func51,Tryz.ntmps51
    go_wp2_with (first
      | (go_at_call 81;have tq:=tok1;go_must (clear tq tok1;refine (rebusref05_side.calls _ _).mono ?_;rintro e w2 ⟨rfl,rfl⟩;rw [hs1])))
    go_ret
    exact ⟨rfl,hx.out.2⟩
  | true =>
    cases hs2 : decide (1 ≤ W) && decide (W ≤ 16) with
    | false =>
      have hv : gcheck H W bl ri be = 50:=by
        have : gsides H W = false:=by
          unfold gsides
          simp only [Bool.decide_and]
          rw [hs1,hs2]
          rfl
        unfold gcheck
        rw [if_pos this]
      rw [hv]
      clear hv
      go_enter Tryz.func51,Tryz.ntmps51
      go_wp2_with (first
        | (go_at_call 81;have tq:=tok1;go_must (clear tq tok1;refine (rebusref05_side.calls _ _).mono ?_;rintro e w2 ⟨rfl,rfl⟩;rw [hs1]))
        | (go_at_call 81;have tq:=tok2;go_must (clear tq tok2;refine (rebusref05_side.calls _ _).mono ?_;rintro e w2 ⟨rfl,rfl⟩;rw [hs2])))
      go_ret
      exact ⟨rfl,hx.out.2⟩
    | true =>
      have hsd : gsides H W = true:=by
        simp only [Bool.and_eq_true,decide_eq_true_eq] at hs1 hs2
        unfold gsides
        rw [decide_eq_true hs1,decide_eq_true hs2]
        rfl
      have hb : 1 ≤ H ∧ H ≤ 16 ∧ 1 ≤ W ∧ W ≤ 16:=by
        simp only [Bool.and_eq_true,decide_eq_true_eq] at hs1 hs2
        omega
      obtain ⟨n,hn⟩ : ∃ n,H * W = n:=⟨_,rfl⟩
      have hn1 : n ≤ 256:=by rw [← hn];exact Int.mul_le_mul hb.2.1 hb.2.2.2 (by omega) (by omega)
      have hn0 : 0 ≤ n:=by rw [← hn];exact Int.mul_nonneg (by omega) (by omega)
      have hwn : wrap64 (H * W) = n:=by rw [hn];exact w64 (by omega) (by omega)
      replace hb:=Lib.hid hb
      by_cases h1 : (bl.length : Int) = n
      · have t1 : ((bl.length : Int) != n) = false:=by rw [h1];simp
        by_cases h2 : (ri.length : Int) = n
        · have t2 : ((ri.length : Int) != n) = false:=by rw [h2];simp
          by_cases h3 : (be.length : Int) = n
          · have t3 : ((be.length : Int) != n) = false:=by rw [h3];simp
            have hsz : gsizes H W bl ri be = true:=by unfold gsizes;rw [hn];exact decide_eq_true ⟨h1,h2,h3⟩
            have hd:=Lib.hid (Dims.mk2 hsd hsz)
            cases hgb : gbads H W bl ri be bl.length 0 with
            | true =>
              have hv : gcheck H W bl ri be = 52:=by unfold gcheck;rw [hsd,hsz,hgb];rfl
              rw [hv]
              clear hv hsd hsz h1 h2 h3
              go_enter Tryz.func51,Tryz.ntmps51
              go_wp2_with (first
                | (go_at_call 81;have tq:=tok1;go_must (clear tq tok1;refine (rebusref05_side.calls _ _).mono ?_;rintro e w2 ⟨rfl,rfl⟩;rw [hs1]))
                | (go_at_call 81;have tq:=tok2;go_must (clear tq tok2;refine (rebusref05_side.calls _ _).mono ?_;rintro e w2 ⟨rfl,rfl⟩;rw [hs2]))
                | (go_at_call 82;go_must (refine (rebusref05_barred.calls (h.below hx.out.2) hd.out).mono ?_;rintro e w3 ⟨rfl,hb3⟩;rw [hgb])))
              go_ret
              exact ⟨rfl,below_step hx.out.2 hb3⟩
            | false =>
              have hv : gcheck H W bl ri be = 0:=by unfold gcheck;rw [hsd,hsz,hgb];rfl
              rw [hv]
              clear hv hsd hsz h1 h2 h3
              go_enter Tryz.func51,Tryz.ntmps51
              go_wp2_with (first
                | (go_at_call 81;have tq:=tok1;go_must (clear tq tok1;refine (rebusref05_side.calls _ _).mono ?_;rintro e w2 ⟨rfl,rfl⟩;rw [hs1]))
                | (go_at_call 81;have tq:=tok2;go_must (clear tq tok2;refine (rebusref05_side.calls _ _).mono ?_;rintro e w2 ⟨rfl,rfl⟩;rw [hs2]))
                | (go_at_call 82;go_must (refine (rebusref05_barred.calls (h.below hx.out.2) hd.out).mono ?_;rintro e w3 ⟨rfl,hb3⟩;rw [hgb])))
              go_ret
              exact ⟨rfl,below_step hx.out.2 hb3⟩
          · have t3 : ((be.length : Int) != n) = true:=bne_iff_ne.2 h3
            have hv : gcheck H W bl ri be = 51:=by
              have : gsizes H W bl ri be = false:=by unfold gsizes;rw [hn];exact decide_eq_false (by omega)
              unfold gcheck
              rw [hsd,this]
              rfl
            rw [hv]
            clear hv hsd
            go_enter Tryz.func51,Tryz.ntmps51
            go_wp2_with (first
              | (go_at_call 81;have tq:=tok1;go_must (clear tq tok1;refine (rebusref05_side.calls _ _).mono ?_;rintro e w2 ⟨rfl,rfl⟩;rw [hs1]))
              | (go_at_call 81;have tq:=tok2;go_must (clear tq tok2;refine (rebusref05_side.calls _ _).mono ?_;rintro e w2 ⟨rfl,rfl⟩;rw [hs2])))
            go_ret
            exact ⟨rfl,hx.out.2⟩
        · have t2 : ((ri.length : Int) != n) = true:=bne_iff_ne.2 h2
          have hv : gcheck H W bl ri be = 51:=by
            have : gsizes H W bl ri be = false:=by unfold gsizes;rw [hn];exact decide_eq_false (by omega)
            unfold gcheck
            rw [hsd,this]
            rfl
          rw [hv]
          clear hv hsd
          go_enter Tryz.func51,Tryz.ntmps51
          go_wp2_with (first
            | (go_at_call 81;have tq:=tok1;go_must (clear tq tok1;refine (rebusref05_side.calls _ _).mono ?_;rintro e w2 ⟨rfl,rfl⟩;rw [hs1]))
            | (go_at_call 81;have tq:=tok2;go_must (clear tq tok2;refine (rebusref05_side.calls _ _).mono ?_;rintro e w2 ⟨rfl,rfl⟩;rw [hs2])))
          go_ret
          exact ⟨rfl,hx.out.2⟩
      · have t1 : ((bl.length : Int) != n) = true:=bne_iff_ne.2 h1
        have hv : gcheck H W bl ri be = 51:=by
          have : gsizes H W bl ri be = false:=by unfold gsizes;rw [hn];exact decide_eq_false (by omega)
          unfold gcheck
          rw [hsd,this]
          rfl
        rw [hv]
        clear hv hsd
        go_enter Tryz.func51,Tryz.ntmps51
        go_wp2_with (first
          | (go_at_call 81;have tq:=tok1;go_must (clear tq tok1;refine (rebusref05_side.calls _ _).mono ?_;rintro e w2 ⟨rfl,rfl⟩;rw [hs1]))
          | (go_at_call 81;have tq:=tok2;go_must (clear tq tok2;refine (rebusref05_side.calls _ _).mono ?_;rintro e w2 ⟨rfl,rfl⟩;rw [hs2])))
        go_ret
        exact ⟨rfl,hx.out.2⟩
set_option maxHeartbeats 8000000 in
set_option maxRecDepth 1000000 in
theorem rebusref05_Open.calls {H W : Int} {A2 : Option Addr} {c2 : Nat} {bl : List Bool} {A3 : Option Addr} {c3 : Nat} {ri : List Bool} {A4 : Option Addr} {c4 : Nat} {be : List Bool} {w : World} {i : Int} (h : GridC A2 c2 bl A3 c3 ri A4 c4 be w) :
    Calls Tryz.prog 111 #[.agg #[.int .i64 H,.int .i64 W,.slice A2 bl.length c2,.slice A3 ri.length c3,.slice A4 be.length c4],.int .i64 i] w fun e w'=>e = .returned (.bool (decide (gcheck H W bl ri be = 0) && gopen bl i)) ∧ Below w.heap.size w w':=by
  have hx:=box1 w (.cells #[.int .i64 H,.int .i64 W,.slice A2 bl.length c2,.slice A3 ri.length c3,.slice A4 be.length c4] 24)
  replace hx:=Lib.hid hx
  have hu24:=Tryz.underlying24
  by_cases hg : gcheck H W bl ri be = 0
  · have hd:=Dims.of hg
    obtain ⟨n,hn⟩ : ∃ n,H * W = n:=⟨_,rfl⟩
    have hn1 : n ≤ 256:=by rw [← hn];exact hd.n
    have hn0 : 0 ≤ n:=by rw [← hn];exact Int.mul_nonneg (by have:=hd.h1;omega) (by have:=hd.w1;omega)
    have hwn : wrap64 (H * W) = n:=by rw [hn];exact w64 (by omega) (by omega)
    have hbn : (bl.length : Int) = n:=by rw [← hn];exact hd.b
    rw [decide_eq_true hg,Bool.true_and]
    clear hd hn
    replace hg:=Lib.hid hg
    by_cases h0 : 0 ≤ i
    · by_cases h1 : i < n
      · obtain ⟨ad,e2,z2⟩:=Kd.at_bool (h.below hx.out.2).h2 i h0 (by omega)
        cases e2
        have hv : gopen bl i = !rdOf false bl i:=by unfold gopen;rw [decide_eq_true ⟨h0,by omega⟩,Bool.true_and];rfl
        rw [hv]
        clear hv
        obtain ⟨bb,hbb⟩ : ∃ x,rdOf false bl i = x:=⟨_,rfl⟩
        rw [hbb] at z2 ⊢
        clear hbb
        cases bb with
        | true =>
          go_enter Tryz.func111,Tryz.ntmps111
          go_wp2_with (first
            | (go_at_call 51;go_must (refine (rebusref05_Check.calls (h.below hx.out.2)).mono ?_;rintro e w3 ⟨rfl,hb3⟩;rw [hg.out];have hc:=cells5 (blk_below hx.out.1 hb3);have z2:=pw_cell_below hb3 z2)))
          go_ret
          exact ⟨rfl,below_step hx.out.2 hb3⟩
        | false =>
          go_enter Tryz.func111,Tryz.ntmps111
          go_wp2_with (first
            | (go_at_call 51;go_must (refine (rebusref05_Check.calls (h.below hx.out.2)).mono ?_;rintro e w3 ⟨rfl,hb3⟩;rw [hg.out];have hc:=cells5 (blk_below hx.out.1 hb3);have z2:=pw_cell_below hb3 z2)))
          go_ret
          exact ⟨rfl,below_step hx.out.2 hb3⟩
      · have hv : gopen bl i = false:=by unfold gopen;rw [decide_eq_false (by omega)];rfl
        rw [hv]
        clear hv
        go_enter Tryz.func111,Tryz.ntmps111
        go_wp2_with (first
          | (go_at_call 51;go_must (refine (rebusref05_Check.calls (h.below hx.out.2)).mono ?_;rintro e w3 ⟨rfl,hb3⟩;rw [hg.out];have hc:=cells5 (blk_below hx.out.1 hb3))))
        go_ret
        exact ⟨rfl,below_step hx.out.2 hb3⟩
    · have hv : gopen bl i = false:=by unfold gopen;rw [decide_eq_false (by omega)];rfl
      rw [hv]
      clear hv
      go_enter Tryz.func111,Tryz.ntmps111
      go_wp2_with (first
        | (go_at_call 51;go_must (refine (rebusref05_Check.calls (h.below hx.out.2)).mono ?_;rintro e w3 ⟨rfl,hb3⟩;rw [hg.out];have hc:=cells5 (blk_below hx.out.1 hb3))))
      go_ret
      exact ⟨rfl,below_step hx.out.2 hb3⟩
  · rw [decide_eq_false hg,Bool.false_and]
    have tg : (gcheck H W bl ri be == 0) = false:=by simpa using hg
    go_enter Tryz.func111,Tryz.ntmps111
    go_wp2_with (first
      | (go_at_call 51;go_must (refine (rebusref05_Check.calls (h.below hx.out.2)).mono ?_;rintro e w3 ⟨rfl,hb3⟩)))
    go_ret
    exact ⟨rfl,below_step hx.out.2 hb3⟩
end Go.Proofs.YtpfbcepgmigeiaaGreatDoor.Q
end
section
namespace Go.Proofs.YtpfbcepgmigeiaaGreatDoor.Q
open Go.RowKit Go.Proofs.YtpfbcepgmigeiaaGreatDoorW.PrintWords Go.Proofs.YtpfbcepgmigeiaaGreatDoorW.PrintLast Go.Proofs.YtpfbcepgmigeiaaGreatDoorW.PrintMore
set_option linter.unusedVariables false
set_option linter.unusedSimpArgs false
open Go.Proofs.YtpfbcepgmigeiaaGreatDoorS
def rstep (c : Bool) (bar : Bool) (blk : Bool) (j : Int) : Int × Bool:=if c then (if bar then (0,false) else if blk then (0,false) else (j,true)) else (0,false)
theorem gstep_ref {H W q d m : Int} {bl ri be : List Bool} (hW : 1 ≤ W) (hd : q / W = d) (hm : q % W = m) (hd0 : 0 ≤ d) (hdH : d < H) (hm0 : 0 ≤ m) (hmW : m < W) (hs : d * W + m = q) :
    gstep H W bl ri be q 0 = rstep (decide (m < W - 1)) (rdOf false ri q) (rdOf false bl (q + 1)) (q + 1) ∧
    gstep H W bl ri be q 1 = rstep (decide (d < H - 1)) (rdOf false be q) (rdOf false bl (q + W)) (q + W) ∧
    gstep H W bl ri be q 2 = rstep (decide (0 < m)) (rdOf false ri (q - 1)) (rdOf false bl (q - 1)) (q - 1) ∧
    gstep H W bl ri be q 3 = rstep (decide (0 < d)) (rdOf false be (q - W)) (rdOf false bl (q - W)) (q - W):=by
  have e0 : gby 0 = (0,1):=rfl
  have e1 : gby 1 = (1,0):=rfl
  have e2 : gby 2 = (0,-1):=rfl
  have e3 : gby 3 = (-1,0):=rfl
  have x1 : (d + 1) * W = d * W + W:=by rw [Int.add_mul,Int.one_mul]
  have x2 : (d + -1) * W = d * W - W:=by rw [Int.add_mul];omega
  refine ⟨?_,?_,?_,?_⟩
  · unfold gstep rstep
    rw [e0,hd,hm]
    simp only [Int.add_zero]
    rw [show d * W + (m + 1) = q + 1 by omega,show min q (q + 1) = q by omega]
    by_cases hc : m < W - 1
    · rw [if_neg (by omega),decide_eq_true hc,if_pos rfl]
      show (if rdOf false bl (q + 1) = true then _ else _) = _
      cases rdOf false bl (q + 1) <;> cases hr : rdOf false ri q <;> simp [gat,rdOf,hr] at hr ⊢ <;> simp [hr]
    · rw [if_pos (by omega),decide_eq_false hc];rfl
  · unfold gstep rstep
    rw [e1,hd,hm]
    simp only [Int.add_zero]
    rw [x1,show d * W + W + m = q + W by omega,show min q (q + W) = q by omega]
    by_cases hc : d < H - 1
    · rw [if_neg (by omega),decide_eq_true hc,if_pos rfl]
      show (if rdOf false bl (q + W) = true then _ else _) = _
      cases rdOf false bl (q + W) <;> cases hr : rdOf false be q <;> simp [gat,rdOf,hr] at hr ⊢ <;> simp [hr]
    · rw [if_pos (by omega),decide_eq_false hc];rfl
  · unfold gstep rstep
    rw [e2,hd,hm]
    simp only [Int.add_zero]
    rw [show d * W + (m + -1) = q - 1 by omega,show min q (q - 1) = q - 1 by omega]
    by_cases hc : 0 < m
    · rw [if_neg (by omega),decide_eq_true hc,if_pos rfl]
      show (if rdOf false bl (q - 1) = true then _ else _) = _
      cases rdOf false bl (q - 1) <;> cases hr : rdOf false ri (q - 1) <;> simp [gat,rdOf,hr] at hr ⊢ <;> simp [hr]
    · rw [if_pos (by omega),decide_eq_false hc];rfl
  · unfold gstep rstep
    rw [e3,hd,hm]
    simp only [Int.add_zero]
    rw [x2,show d * W - W + m = q - W by omega,show min q (q - W) = q - W by omega]
    by_cases hc : 0 < d
    · rw [if_neg (by omega),decide_eq_true hc,if_pos rfl]
      show (if rdOf false bl (q - W) = true then _ else _) = _
      cases rdOf false bl (q - W) <;> cases hr : rdOf false be (q - W) <;> simp [gat,rdOf,hr] at hr ⊢ <;> simp [hr]
    · rw [if_pos (by omega),decide_eq_false hc];rfl
set_option maxHeartbeats 8000000 in
set_option maxRecDepth 1000000 in
theorem rebusref05_Step.calls {H W : Int} {A2 : Option Addr} {c2 : Nat} {bl : List Bool} {A3 : Option Addr} {c3 : Nat} {ri : List Bool} {A4 : Option Addr} {c4 : Nat} {be : List Bool} {w : World} {q way : Int} (h : GridC A2 c2 bl A3 c3 ri A4 c4 be w) (hg : gcheck H W bl ri be = 0) (hw : way = 0 ∨ way = 1 ∨ way = 2 ∨ way = 3) :
    Calls Tryz.prog 87 #[.agg #[.int .i64 H,.int .i64 W,.slice A2 bl.length c2,.slice A3 ri.length c3,.slice A4 be.length c4],.int .i64 q,.int .i64 way] w fun e w'=>e = .returned (.tuple #[.int .i64 (gStep H W bl ri be q way).1,.bool (gStep H W bl ri be q way).2]) ∧ Below w.heap.size w w':=by
  have hx:=box1 w (.cells #[.int .i64 H,.int .i64 W,.slice A2 bl.length c2,.slice A3 ri.length c3,.slice A4 be.length c4] 24)
  replace hx:=Lib.hid hx
  have hu24:=Tryz.underlying24
  have hd:=Dims.of hg
  cases hop : gopen bl q with
  | false =>
    have ho : (decide (gcheck H W bl ri be = 0) && gopen bl q) = false:=by rw [hop,Bool.and_false]
    have hv : gStep H W bl ri be q way = (0,false):=by unfold gStep;rw [hop];rfl
    rw [hv]
    clear hv hd
    replace hw:=Lib.hid hw
    go_enter Tryz.func87,Tryz.ntmps87
    go_wp2_with (first
      | (go_at_call 111;go_must (refine (rebusref05_Open.calls (h.below hx.out.2)).mono ?_;rintro e w3 ⟨rfl,hb3⟩;rw [ho];have hc:=cells5 (blk_below hx.out.1 hb3))))
    go_ret2
    exact ⟨rfl,below_step hx.out.2 hb3⟩
  | true =>
    have ho : (decide (gcheck H W bl ri be = 0) && gopen bl q) = true:=by rw [hop,decide_eq_true hg];rfl
    have hv : gStep H W bl ri be q way = gstep H W bl ri be q way:=by unfold gStep;rw [hop];rfl
    rw [hv]
    clear hv
    have hop2 : 0 ≤ q ∧ q < bl.length:=by
      unfold gopen at hop
      simp only [Bool.and_eq_true,decide_eq_true_eq] at hop
      exact hop.1
    obtain ⟨hq0,hq1⟩:=hop2
    obtain ⟨n,hn⟩ : ∃ n,H * W = n:=⟨_,rfl⟩
    have hn1 : n ≤ 256:=by rw [← hn];exact hd.n
    have hbl : (bl.length : Int) = n:=by rw [← hn];exact hd.b
    have hri : (ri.length : Int) = n:=by rw [← hn];exact hd.r
    have hbe : (be.length : Int) = n:=by rw [← hn];exact hd.e
    have hH1:=hd.h1
    have hH2:=hd.h2
    have hW1:=hd.w1
    have hW2:=hd.w2
    obtain ⟨d,m,ed,em,hd0,hdH,hm0,hmW,hdq,k1,k2,k3,k4⟩:=place_facts (H:=H) hW1 hq0 (by rw [hn];omega)
    rw [hn] at k1 k2
    have hs : d * W + m = q:=by have:=Int.mul_ediv_add_emod q W;rw [Int.mul_comm,ed,em] at this;exact this
    have hdw : wrap64 (q.tdiv W) = d:=by rw [Int.tdiv_eq_ediv_of_nonneg hq0,ed];exact w64 (by omega) (by omega)
    have hmw : wrap64 (q.tmod W) = m:=by rw [Int.tmod_eq_emod_of_nonneg hq0,em];exact w64 (by omega) (by omega)
    obtain ⟨s0,s1,s2,s3⟩:=gstep_ref (bl:=bl) (ri:=ri) (be:=be) hW1 ed em hd0 hdH hm0 hmW hs
    clear hs hd hop hn hdw hmw
    rcases hw with rfl | rfl | rfl | rfl
    · rw [s0]
      clear s0 s1 s2 s3
      by_cases hc0 : m < W - 1
      · have tc : decide (m < W - 1) = true:=decide_eq_true hc0
        rw [tc]
        have kj : q + 1 < n:=k1 (by omega)
        obtain ⟨a5,e5,z5⟩:=Kd.at_bool (h.below hx.out.2).h3 (q) (by omega) (by omega)
        cases e5
        obtain ⟨a6,e6,z6⟩:=Kd.at_bool (h.below hx.out.2).h2 (q + 1) (by omega) (by omega)
        cases e6
        obtain ⟨xb,hxb⟩ : ∃ x,rdOf false ri (q) = x:=⟨_,rfl⟩
        obtain ⟨xk,hxk⟩ : ∃ x,rdOf false bl (q + 1) = x:=⟨_,rfl⟩
        rw [hxb] at z5 ⊢
        rw [hxk] at z6 ⊢
        clear hxb hxk
        cases xb with
        | true =>
          go_enter Tryz.func87,Tryz.ntmps87
          go_wp2_with (first
            | (go_at_call 111;go_must (refine (rebusref05_Open.calls (h.below hx.out.2)).mono ?_;rintro e w3 ⟨rfl,hb3⟩;rw [ho];have hc:=cells5 (blk_below hx.out.1 hb3);have z5:=pw_cell_below hb3 z5;have z6:=pw_cell_below hb3 z6)))
          go_quiet (fail)
          go_wp2
          go_ret2
          exact ⟨rfl,by first | exact pw_below_drewN (below_step hx.out.2 hb3) _ | exact below_step hx.out.2 hb3⟩
        | false =>
          cases xk with
          | true =>
            go_enter Tryz.func87,Tryz.ntmps87
            go_wp2_with (first
              | (go_at_call 111;go_must (refine (rebusref05_Open.calls (h.below hx.out.2)).mono ?_;rintro e w3 ⟨rfl,hb3⟩;rw [ho];have hc:=cells5 (blk_below hx.out.1 hb3);have z5:=pw_cell_below hb3 z5;have z6:=pw_cell_below hb3 z6)))
            go_quiet (fail)
            go_wp2
            go_ret2
            exact ⟨rfl,by first | exact pw_below_drewN (below_step hx.out.2 hb3) _ | exact below_step hx.out.2 hb3⟩
          | false =>
            go_enter Tryz.func87,Tryz.ntmps87
            go_wp2_with (first
              | (go_at_call 111;go_must (refine (rebusref05_Open.calls (h.below hx.out.2)).mono ?_;rintro e w3 ⟨rfl,hb3⟩;rw [ho];have hc:=cells5 (blk_below hx.out.1 hb3);have z5:=pw_cell_below hb3 z5;have z6:=pw_cell_below hb3 z6)))
            go_quiet (fail)
            go_wp2
            go_ret2
            exact ⟨rfl,by first | exact pw_below_drewN (below_step hx.out.2 hb3) _ | exact below_step hx.out.2 hb3⟩
      · have tc : decide (m < W - 1) = false:=decide_eq_false hc0
        rw [tc]
        go_enter Tryz.func87,Tryz.ntmps87
        go_wp2_with (first
          | (go_at_call 111;go_must (refine (rebusref05_Open.calls (h.below hx.out.2)).mono ?_;rintro e w3 ⟨rfl,hb3⟩;rw [ho];have hc:=cells5 (blk_below hx.out.1 hb3))))
        go_quiet (fail)
        go_wp2
        go_ret2
        exact ⟨rfl,by first | exact pw_below_drewN (below_step hx.out.2 hb3) _ | exact below_step hx.out.2 hb3⟩
    · rw [s1]
      clear s0 s1 s2 s3
      by_cases hc0 : d < H - 1
      · have tc : decide (d < H - 1) = true:=decide_eq_true hc0
        rw [tc]
        have kj : q + W < n:=k2 (by omega)
        obtain ⟨a5,e5,z5⟩:=Kd.at_bool (h.below hx.out.2).h4 (q) (by omega) (by omega)
        cases e5
        obtain ⟨a6,e6,z6⟩:=Kd.at_bool (h.below hx.out.2).h2 (q + W) (by omega) (by omega)
        cases e6
        obtain ⟨xb,hxb⟩ : ∃ x,rdOf false be (q) = x:=⟨_,rfl⟩
        obtain ⟨xk,hxk⟩ : ∃ x,rdOf false bl (q + W) = x:=⟨_,rfl⟩
        rw [hxb] at z5 ⊢
        rw [hxk] at z6 ⊢
        clear hxb hxk
        cases xb with
        | true =>
          go_enter Tryz.func87,Tryz.ntmps87
          go_wp2_with (first
            | (go_at_call 111;go_must (refine (rebusref05_Open.calls (h.below hx.out.2)).mono ?_;rintro e w3 ⟨rfl,hb3⟩;rw [ho];have hc:=cells5 (blk_below hx.out.1 hb3);have z5:=pw_cell_below hb3 z5;have z6:=pw_cell_below hb3 z6)))
          go_quiet (fail)
          go_wp2
          go_ret2
          exact ⟨rfl,by first | exact pw_below_drewN (below_step hx.out.2 hb3) _ | exact below_step hx.out.2 hb3⟩
        | false =>
          cases xk with
          | true =>
            go_enter Tryz.func87,Tryz.ntmps87
            go_wp2_with (first
              | (go_at_call 111;go_must (refine (rebusref05_Open.calls (h.below hx.out.2)).mono ?_;rintro e w3 ⟨rfl,hb3⟩;rw [ho];have hc:=cells5 (blk_below hx.out.1 hb3);have z5:=pw_cell_below hb3 z5;have z6:=pw_cell_below hb3 z6)))
            go_quiet (fail)
            go_wp2
            go_ret2
            exact ⟨rfl,by first | exact pw_below_drewN (below_step hx.out.2 hb3) _ | exact below_step hx.out.2 hb3⟩
          | false =>
            go_enter Tryz.func87,Tryz.ntmps87
            go_wp2_with (first
              | (go_at_call 111;go_must (refine (rebusref05_Open.calls (h.below hx.out.2)).mono ?_;rintro e w3 ⟨rfl,hb3⟩;rw [ho];have hc:=cells5 (blk_below hx.out.1 hb3);have z5:=pw_cell_below hb3 z5;have z6:=pw_cell_below hb3 z6)))
            go_quiet (fail)
            go_wp2
            go_ret2
            exact ⟨rfl,by first | exact pw_below_drewN (below_step hx.out.2 hb3) _ | exact below_step hx.out.2 hb3⟩
      · have tc : decide (d < H - 1) = false:=decide_eq_false hc0
        rw [tc]
        go_enter Tryz.func87,Tryz.ntmps87
        go_wp2_with (first
          | (go_at_call 111;go_must (refine (rebusref05_Open.calls (h.below hx.out.2)).mono ?_;rintro e w3 ⟨rfl,hb3⟩;rw [ho];have hc:=cells5 (blk_below hx.out.1 hb3))))
        go_quiet (fail)
        go_wp2
        go_ret2
        exact ⟨rfl,by first | exact pw_below_drewN (below_step hx.out.2 hb3) _ | exact below_step hx.out.2 hb3⟩
    · rw [s2]
      clear s0 s1 s2 s3
      by_cases hc0 : 0 < m
      · have tc : decide (0 < m) = true:=decide_eq_true hc0
        rw [tc]
        obtain ⟨p,hp⟩ : ∃ p,q - 1 = p:=⟨_,rfl⟩
        have k3:=k3 (by omega)
        rw [hp] at k3 ⊢
        have kj : 0 ≤ p:=k3
        obtain ⟨a5,e5,z5⟩:=Kd.at_bool (h.below hx.out.2).h3 (p) (by omega) (by omega)
        cases e5
        obtain ⟨a6,e6,z6⟩:=Kd.at_bool (h.below hx.out.2).h2 (p) (by omega) (by omega)
        cases e6
        obtain ⟨xb,hxb⟩ : ∃ x,rdOf false ri (p) = x:=⟨_,rfl⟩
        obtain ⟨xk,hxk⟩ : ∃ x,rdOf false bl (p) = x:=⟨_,rfl⟩
        rw [hxb] at z5 ⊢
        rw [hxk] at z6 ⊢
        clear hxb hxk
        cases xb with
        | true =>
          go_enter Tryz.func87,Tryz.ntmps87
          go_wp2_with (first
            | (go_at_call 111;go_must (refine (rebusref05_Open.calls (h.below hx.out.2)).mono ?_;rintro e w3 ⟨rfl,hb3⟩;rw [ho];have hc:=cells5 (blk_below hx.out.1 hb3);have z5:=pw_cell_below hb3 z5;have z6:=pw_cell_below hb3 z6)))
          go_quiet (fail)
          go_wp2
          go_ret2
          exact ⟨rfl,by first | exact pw_below_drewN (below_step hx.out.2 hb3) _ | exact below_step hx.out.2 hb3⟩
        | false =>
          cases xk with
          | true =>
            go_enter Tryz.func87,Tryz.ntmps87
            go_wp2_with (first
              | (go_at_call 111;go_must (refine (rebusref05_Open.calls (h.below hx.out.2)).mono ?_;rintro e w3 ⟨rfl,hb3⟩;rw [ho];have hc:=cells5 (blk_below hx.out.1 hb3);have z5:=pw_cell_below hb3 z5;have z6:=pw_cell_below hb3 z6)))
            go_quiet (fail)
            go_wp2
            go_ret2
            exact ⟨rfl,by first | exact pw_below_drewN (below_step hx.out.2 hb3) _ | exact below_step hx.out.2 hb3⟩
          | false =>
            go_enter Tryz.func87,Tryz.ntmps87
            go_wp2_with (first
              | (go_at_call 111;go_must (refine (rebusref05_Open.calls (h.below hx.out.2)).mono ?_;rintro e w3 ⟨rfl,hb3⟩;rw [ho];have hc:=cells5 (blk_below hx.out.1 hb3);have z5:=pw_cell_below hb3 z5;have z6:=pw_cell_below hb3 z6)))
            go_quiet (fail)
            go_wp2
            go_ret2
            exact ⟨rfl,by first | exact pw_below_drewN (below_step hx.out.2 hb3) _ | exact below_step hx.out.2 hb3⟩
      · have tc : decide (0 < m) = false:=decide_eq_false hc0
        rw [tc]
        go_enter Tryz.func87,Tryz.ntmps87
        go_wp2_with (first
          | (go_at_call 111;go_must (refine (rebusref05_Open.calls (h.below hx.out.2)).mono ?_;rintro e w3 ⟨rfl,hb3⟩;rw [ho];have hc:=cells5 (blk_below hx.out.1 hb3))))
        go_quiet (fail)
        go_wp2
        go_ret2
        exact ⟨rfl,by first | exact pw_below_drewN (below_step hx.out.2 hb3) _ | exact below_step hx.out.2 hb3⟩
    · rw [s3]
      clear s0 s1 s2 s3
      by_cases hc0 : 0 < d
      · have tc : decide (0 < d) = true:=decide_eq_true hc0
        rw [tc]
        have kj : 0 ≤ q - W:=k4 (by omega)
        obtain ⟨a5,e5,z5⟩:=Kd.at_bool (h.below hx.out.2).h4 (q - W) (by omega) (by omega)
        cases e5
        obtain ⟨a6,e6,z6⟩:=Kd.at_bool (h.below hx.out.2).h2 (q - W) (by omega) (by omega)
        cases e6
        obtain ⟨xb,hxb⟩ : ∃ x,rdOf false be (q - W) = x:=⟨_,rfl⟩
        obtain ⟨xk,hxk⟩ : ∃ x,rdOf false bl (q - W) = x:=⟨_,rfl⟩
        rw [hxb] at z5 ⊢
        rw [hxk] at z6 ⊢
        clear hxb hxk
        cases xb with
        | true =>
          go_enter Tryz.func87,Tryz.ntmps87
          go_wp2_with (first
            | (go_at_call 111;go_must (refine (rebusref05_Open.calls (h.below hx.out.2)).mono ?_;rintro e w3 ⟨rfl,hb3⟩;rw [ho];have hc:=cells5 (blk_below hx.out.1 hb3);have z5:=pw_cell_below hb3 z5;have z6:=pw_cell_below hb3 z6)))
          go_quiet (fail)
          go_wp2
          go_ret2
          exact ⟨rfl,by first | exact pw_below_drewN (below_step hx.out.2 hb3) _ | exact below_step hx.out.2 hb3⟩
        | false =>
          cases xk with
          | true =>
            go_enter Tryz.func87,Tryz.ntmps87
            go_wp2_with (first
              | (go_at_call 111;go_must (refine (rebusref05_Open.calls (h.below hx.out.2)).mono ?_;rintro e w3 ⟨rfl,hb3⟩;rw [ho];have hc:=cells5 (blk_below hx.out.1 hb3);have z5:=pw_cell_below hb3 z5;have z6:=pw_cell_below hb3 z6)))
            go_quiet (fail)
            go_wp2
            go_ret2
            exact ⟨rfl,by first | exact pw_below_drewN (below_step hx.out.2 hb3) _ | exact below_step hx.out.2 hb3⟩
          | false =>
            go_enter Tryz.func87,Tryz.ntmps87
            go_wp2_with (first
              | (go_at_call 111;go_must (refine (rebusref05_Open.calls (h.below hx.out.2)).mono ?_;rintro e w3 ⟨rfl,hb3⟩;rw [ho];have hc:=cells5 (blk_below hx.out.1 hb3);have z5:=pw_cell_below hb3 z5;have z6:=pw_cell_below hb3 z6)))
            go_quiet (fail)
            go_wp2
            go_ret2
            exact ⟨rfl,by first | exact pw_below_drewN (below_step hx.out.2 hb3) _ | exact below_step hx.out.2 hb3⟩
      · have tc : decide (0 < d) = false:=decide_eq_false hc0
        rw [tc]
        go_enter Tryz.func87,Tryz.ntmps87
        go_wp2_with (first
          | (go_at_call 111;go_must (refine (rebusref05_Open.calls (h.below hx.out.2)).mono ?_;rintro e w3 ⟨rfl,hb3⟩;rw [ho];have hc:=cells5 (blk_below hx.out.1 hb3))))
        go_quiet (fail)
        go_wp2
        go_ret2
        exact ⟨rfl,by first | exact pw_below_drewN (below_step hx.out.2 hb3) _ | exact below_step hx.out.2 hb3⟩
end Go.Proofs.YtpfbcepgmigeiaaGreatDoor.Q
end
section
namespace Go.Proofs.YtpfbcepgmigeiaaGreatDoor.Q
open Go.RowKit Go.Proofs.YtpfbcepgmigeiaaGreatDoorW.PrintWords Go.Proofs.YtpfbcepgmigeiaaGreatDoorW.PrintLast Go.Proofs.YtpfbcepgmigeiaaGreatDoorW.PrintMore
set_option linter.unusedVariables false
set_option linter.unusedSimpArgs false
open Go.Proofs.YtpfbcepgmigeiaaGreatDoorS
theorem gopen_rd {bl : List Bool} {i : Int} (h : gopen bl i = true) : 0 ≤ i ∧ i < bl.length ∧ rdOf false bl i = false:=by
  unfold gopen at h
  simp only [Bool.and_eq_true,decide_eq_true_eq,Bool.not_eq_true'] at h
  exact ⟨h.1.1,h.1.2,h.2⟩
def gback (H W : Int) (bl ri be : List Bool) (way : Int) : Nat → Int → Int
  | 0,i=>i
  | f + 1,i=>if (gStep H W bl ri be i way).2 then gback H W bl ri be way f (gStep H W bl ri be i way).1 else i
theorem gStep_down {H W q way : Int} {bl ri be : List Bool} (hg : gcheck H W bl ri be = 0) (hb : way = 2 ∨ way = 3) (h : (gStep H W bl ri be q way).2 = true) : (gStep H W bl ri be q way).1 < q:=by
  have ho:=(gStep_open hg h).1
  have hd:=Dims.of hg
  have hs : gStep H W bl ri be q way = gstep H W bl ri be q way:=by unfold gStep;rw [ho];rfl
  obtain ⟨hq0,hq1,_⟩:=gopen_rd ho
  obtain ⟨d,m,ed,em,hd0,hdH,hm0,hmW,_,_,_,_,_⟩:=place_facts (H:=H) hd.w1 hq0 (by rw [← hd.b];exact hq1)
  have hsum : d * W + m = q:=by have:=Int.mul_ediv_add_emod q W;rw [Int.mul_comm,ed,em] at this;exact this
  obtain ⟨_,_,s2,s3⟩:=gstep_ref (bl:=bl) (ri:=ri) (be:=be) hd.w1 ed em hd0 hdH hm0 hmW hsum
  have hW:=hd.w1
  rw [hs] at h ⊢
  rcases hb with rfl | rfl
  · rw [s2] at h ⊢
    unfold rstep at h ⊢
    repeat' split at h
    all_goals first | (simp at h;done) | skip
    rename_i h1 h2 h3
    rw [if_pos h1,if_neg h2,if_neg h3]
    show q - 1 < q
    omega
  · rw [s3] at h ⊢
    unfold rstep at h ⊢
    repeat' split at h
    all_goals first | (simp at h;done) | skip
    rename_i h1 h2 h3
    rw [if_pos h1,if_neg h2,if_neg h3]
    show q - W < q
    omega
def backTo (H W : Int) (bl ri be : List Bool) (dn : Bool) (i : Int) : Int:=gback H W bl ri be (if dn then 3 else 2) bl.length i
def rrun (H W : Int) (bl ri be : List Bool) (dn : Bool) (i : Int) : List Int:=grun H W bl ri be (if dn then 1 else 0) bl.length (backTo H W bl ri be dn i)
set_option maxHeartbeats 8000000 in
set_option maxRecDepth 1000000 in
theorem rebusref07_run.calls {H W : Int} {A2 : Option Addr} {c2 : Nat} {bl : List Bool} {A3 : Option Addr} {c3 : Nat} {ri : List Bool} {A4 : Option Addr} {c4 : Nat} {be : List Bool} {w : World} {i : Int} {dn : Bool} (h : GridC A2 c2 bl A3 c3 ri A4 c4 be w) (hg : gcheck H W bl ri be = 0) (hi : gopen bl i = true) :
    Calls Tryz.prog 54 #[.agg #[.int .i64 H,.int .i64 W,.slice A2 bl.length c2,.slice A3 ri.length c3,.slice A4 be.length c4],.int .i64 i,.bool dn] w fun e w'=>∃ v,e = .returned v ∧ Kd.R (Kd.int .i64) 3 w' w.heap.size (fun _=>True) v (rrun H W bl ri be dn i) ∧ Below w.heap.size w w':=by
  have hx:=box1 w (.cells #[.int .i64 H,.int .i64 W,.slice A2 bl.length c2,.slice A3 ri.length c3,.slice A4 be.length c4] 24)
  replace hx:=Lib.hid hx
  have hu24:=Tryz.underlying24
  have hbl : bl.length ≤ 256:=by have:=(Dims.of hg).n;have:=(Dims.of hg).b;omega
  have hio:=gopen_rd hi
  obtain ⟨first,hfirst⟩ : ∃ x,backTo H W bl ri be dn i = x:=⟨_,rfl⟩
  have hr : rrun H W bl ri be dn i = grun H W bl ri be (if dn then 1 else 0) bl.length first:=by unfold rrun;rw [hfirst]
  rw [hr]
  clear hr
  unfold backTo at hfirst
  replace hfirst:=Lib.hid hfirst
  cases dn with
  | false =>
    simp only [Bool.false_eq_true,if_true,if_false] at hfirst ⊢
    obtain ⟨R,hR0⟩ : ∃ R,grun H W bl ri be 0 bl.length first = R:=⟨_,rfl⟩
    rw [hR0]
    replace hR0:=Lib.hid hR0
    go_enter Tryz.func54,Tryz.ntmps54
    go_wp2
    generalize w.alloc (.cells #[.int .i64 H,.int .i64 W,.slice A2 bl.length c2,.slice A3 ri.length c3,.slice A4 be.length c4] 24) = w1 at hx ⊢
    go_loopw [1,9] (fun v1 v9 wr=>∃ (f : Nat) (q : Int) (ok : Bool),v1 = .int .i64 q ∧ v9 = .bool ok ∧ Hid (gopen bl q = true ∧ (ok = true → gback H W bl ri be 2 f q = first ∧ q < f) ∧ (ok = false → q = first)) ∧ Hid (Below w1.heap.size w1 wr)) (fun v1 v9 _=>match v9 with | .bool true=>(intOf v1).toNat + 1 | _=>0)
    case atStart=>exact ⟨bl.length,i,true,rfl,rfl,Lib.hid ⟨hi,fun _=>⟨hfirst.out,hio.2.1⟩,fun e=>(by cases e)⟩,Lib.hid (Below.refl _ _)⟩
    case round =>
      obtain ⟨f,q,ok,rfl,rfl,hq,hB⟩:=hrel
      have hbk:=cells5 (blk_below hx.out.1 hB.out)
      cases ok with
      | true =>
        have hq1:=(hq.out.2.1 rfl).1
        have hq2:=(hq.out.2.1 rfl).2
        have hq3:=gopen_rd hq.out.1
        obtain ⟨f,rfl⟩ : ∃ f',f = f' + 1:=⟨f - 1,by omega⟩
        cases hok : (gStep H W bl ri be q 2).2 with
        | false =>
          have e1 : gback H W bl ri be 2 (f + 1) q = q:=by simp only [gback,hok];rfl
          rw [e1] at hq1
          have hqo:=Lib.hid hq.out.1
          replace hok:=Lib.hid hok
          replace hq1:=Lib.hid hq1
          clear hq hq2 hq3 e1
          go_wp2_with (first
            | (go_at_call 87;go_must (refine (rebusref05_Step.calls (q:=q) (way:=2) ((h.below hx.out.2).below hB.out) hg (by decide)).mono ?_;rintro e w3 ⟨rfl,hb3⟩;rw [hok.out])))
          go_roundw
          case rel=>exact ⟨0,q,false,rfl,rfl,Lib.hid ⟨hqo.out,fun e=>(by cases e),fun _=>hq1.out⟩,Lib.hid (below_step hB.out hb3)⟩
          case measure=>simp [intOf]
        | true =>
          have e1 : gback H W bl ri be 2 (f + 1) q = gback H W bl ri be 2 f (gStep H W bl ri be q 2).1:=by simp only [gback,hok];rfl
          rw [e1] at hq1
          have hqo:=(gStep_open hg hok).2
          have hlt:=gStep_down hg (by decide) hok
          obtain ⟨j,hj⟩ : ∃ j,(gStep H W bl ri be q 2).1 = j:=⟨_,rfl⟩
          rw [hj] at hq1 hqo hlt
          have hj0:=(gopen_rd hqo).1
          have hst : gStep H W bl ri be q 2 = (j,true):=Prod.ext hj hok
          replace hqo:=Lib.hid hqo
          replace hst:=Lib.hid hst
          replace hq1:=Lib.hid hq1
          clear hq hok e1 hj
          go_wp2_with (first
            | (go_at_call 87;go_must (refine (rebusref05_Step.calls (q:=q) (way:=2) ((h.below hx.out.2).below hB.out) hg (by decide)).mono ?_;rintro e w3 ⟨rfl,hb3⟩;rw [hst.out])))
          go_roundw
          case rel=>exact ⟨f,j,true,rfl,rfl,Lib.hid ⟨hqo.out,fun _=>⟨hq1.out,by omega⟩,fun e=>(by cases e)⟩,Lib.hid (below_step hB.out hb3)⟩
          case measure=>simp [intOf];omega
      | false =>
        have hqf:=hq.out.2.2 rfl
        have hqo:=hq.out.1
        rw [hqf] at hqo ⊢
        have hfo:=gopen_rd hqo
        clear hq hqf
        replace hqo:=Lib.hid hqo
        go_wp2_with (((with_reducible refine gate_dst (N:=25) rfl ?_);go_must (refine Kd.R_lit (Kd.int .i64) _ 3 ?hg (N:=25) ?hd (xs:=([first] : List Int)) (inner:=[.int .i64 first]) (ok:=fun _=>True) (okp:=fun _=>True) ?hr ?hp (fun _ hk=>hk) trivial (Below.refl _ _) (Nat.le_refl _) (by simp) ?_;(case hd=>rfl);(case hg=>rfl);(case hr=>first | (go_simp;done) | (go_simp;rfl));(case hp=>exact (Reps.one (show Kd.M (Kd.int .i64) _ _ _ first [.int .i64 first] from rfl) (Reps.none _ _)));intro v1 w4 ho1 hb1 hg_ hnew_;clear hg_ hnew_;have hB4:=Lib.hid (below_step hB.out hb1);have hO4:=Lib.hid (Kd.R_lower ho1 (below_size hB.out));clear ho1 hb1)))
        go_hide hQ
        go_loopw [1,11,12] (fun t v v12 wi=>∃ (f : Nat) (j : Int) (ok : Bool) (xs : List Int),t = .int .i64 j ∧ v12 = .bool ok ∧ Hid (ok = true → (xs ++ (grun H W bl ri be 0 f j).tail = R) ∧ 0 ≤ j ∧ j < bl.length ∧ (bl.length : Int) - j ≤ f ∧ (xs.length : Int) ≤ j + 1) ∧ Hid (ok = false → xs = R) ∧ Hid (xs.length ≤ 300) ∧ Hid (Kd.R (Kd.int .i64) 3 wi w1.heap.size (fun _=>True) v xs) ∧ Hid (Below w1.heap.size w1 wi)) (fun t _ v12 _=>match v12 with | .bool true=>bl.length - (intOf t).toNat + 1 | _=>0)
        case atStart=>exact ⟨bl.length,first,true,[first],rfl,rfl,Lib.hid (fun _=>⟨by
            rw [← hR0.out]
            obtain ⟨k,hk⟩ : ∃ k,bl.length = k + 1:=⟨bl.length - 1,by omega⟩
            rw [hk]
            unfold grun
            split <;> rfl,hfo.1,hfo.2.1,by omega,by simp;omega⟩),Lib.hid (fun e=>(by cases e)),Lib.hid (by simp),hO4,hB4⟩
        case round =>
          clear hO4 hB4
          obtain ⟨f,j,ok,xs,rfl,rfl,hj,hxs,hxl,hO,hBi⟩:=hrel
          have hbi:=cells5 (blk_below hx.out.1 hBi.out)
          cases ok with
          | true =>
            obtain ⟨hj1,hj2,hj3,hj4,hj5⟩:=hj.out rfl
            obtain ⟨f,rfl⟩ : ∃ f',f = f' + 1:=⟨f - 1,by omega⟩
            cases hok : (gStep H W bl ri be j 0).2 with
            | false =>
              have hrun : grun H W bl ri be 0 (f + 1) j = [j]:=by simp only [grun,hok];rfl
              rw [hrun] at hj1
              have hj1:=Lib.hid (show xs = R by simpa using hj1)
              replace hok:=Lib.hid hok
              clear hj hxs hrun hj5
              go_wp2_with (first
                | (go_at_call 87;go_must (refine (rebusref05_Step.calls (q:=j) (way:=0) ((h.below hx.out.2).below hBi.out) hg (by decide)).mono ?_;rintro e w5 ⟨rfl,hb5⟩;rw [hok.out])))
              go_roundw
              case rel=>exact ⟨0,_,false,xs,rfl,rfl,Lib.hid (fun e=>(by cases e)),Lib.hid (fun _=>hj1.out),hxl,Lib.hid (Kd.R_below hO.out hb5),Lib.hid (below_step hBi.out hb5)⟩
              case measure=>simp [intOf]
            | true =>
              have hyes:=gStep_yes hg (by decide) hok
              have hrun : grun H W bl ri be 0 (f + 1) j = j :: grun H W bl ri be 0 f (gStep H W bl ri be j 0).1:=by simp only [grun,hok];rfl
              obtain ⟨j2,hj6⟩ : ∃ j2,(gStep H W bl ri be j 0).1 = j2:=⟨_,rfl⟩
              have hst : gStep H W bl ri be j 0 = (j2,true):=Prod.ext hj6 hok
              rw [hrun,hj6] at hj1
              rw [hj6] at hyes
              have hj1:=Lib.hid (show xs ++ grun H W bl ri be 0 f j2 = R by simpa using hj1)
              have hgh : ∃ t,grun H W bl ri be 0 f j2 = j2 :: t:=by cases f <;> simp only [grun] <;> first | exact ⟨_,rfl⟩ | (split <;> exact ⟨_,rfl⟩)
              replace hgh:=Lib.hid hgh
              have hlen : xs.length + 1 < 17592186044416:=by omega
              replace hlen:=Lib.hid hlen
              replace hst:=Lib.hid hst
              clear hj hxs hrun hok hj6
              go_wp2_with (first
                | (go_at_call 87;go_must (refine (rebusref05_Step.calls (q:=j) (way:=0) ((h.below hx.out.2).below hBi.out) hg (by decide)).mono ?_;rintro e w5 ⟨rfl,hb5⟩;rw [hst.out];have hO5:=Lib.hid (Kd.R_below hO.out hb5);have hB5:=below_step hBi.out hb5))
                | ((with_reducible refine gate_builtin (b:=.append) (xs:=#[.tmp 35,.tmp 37]) rfl ?_);go_must (at_builtin;refine Kd.R_append (Kd.int .i64) (w0:=w1) w1.heap.size rfl (.tmp 35) (.tmp 37) 46 3 (.int .i64 0) 8 rfl Tryz.underlying46 int_info rfl (by decide) (by decide) _ xs j2 [.int .i64 j2] (fun _=>True) (fun _=>False) rfl rfl ?aP (fun _ hk=>hk.elim) ?aF ?aO ?aB ?aS ?aL ?_;(case aP=>exact rfl);(case aB=>exact hB5);(case aF=>exact (fun _ _=>trivial));(case aO=>exact hO5.out);(case aS=>exact hB5.size);(case aL=>have:=hlen.out;omega);intro v6 w6 ho6 hb6 hg6 hat6)))
              go_roundw
              case rel=>exact ⟨f,j2,true,xs ++ [j2],rfl,rfl,Lib.hid (fun _=>⟨by
                  obtain ⟨t,ht⟩:=hgh.out
                  have:=hj1.out
                  rw [ht] at this ⊢
                  simpa using this,by omega,by omega,by omega,by simp only [List.length_append,List.length_singleton];omega⟩),Lib.hid (fun e=>(by cases e)),Lib.hid (by simp only [List.length_append,List.length_singleton];omega),Lib.hid ho6,Lib.hid hb6⟩
              case measure=>simp [intOf];omega
          | false =>
            have hxr:=Lib.hid (hxs.out rfl)
            clear hj hxs
            go_wp2
            subst hQ
            go_wp2
            go_ret
            refine ⟨_,rfl,?_,below_step hx.out.2 hBi.out⟩
            rw [← hxr.out]
            exact Kd.R_lower hO.out (below_size hx.out.2)
  | true =>
    simp only [Bool.false_eq_true,if_true,if_false] at hfirst ⊢
    obtain ⟨R,hR0⟩ : ∃ R,grun H W bl ri be 1 bl.length first = R:=⟨_,rfl⟩
    rw [hR0]
    replace hR0:=Lib.hid hR0
    go_enter Tryz.func54,Tryz.ntmps54
    go_wp2
    generalize w.alloc (.cells #[.int .i64 H,.int .i64 W,.slice A2 bl.length c2,.slice A3 ri.length c3,.slice A4 be.length c4] 24) = w1 at hx ⊢
    go_loopw [1,9] (fun v1 v9 wr=>∃ (f : Nat) (q : Int) (ok : Bool),v1 = .int .i64 q ∧ v9 = .bool ok ∧ Hid (gopen bl q = true ∧ (ok = true → gback H W bl ri be 3 f q = first ∧ q < f) ∧ (ok = false → q = first)) ∧ Hid (Below w1.heap.size w1 wr)) (fun v1 v9 _=>match v9 with | .bool true=>(intOf v1).toNat + 1 | _=>0)
    case atStart=>exact ⟨bl.length,i,true,rfl,rfl,Lib.hid ⟨hi,fun _=>⟨hfirst.out,hio.2.1⟩,fun e=>(by cases e)⟩,Lib.hid (Below.refl _ _)⟩
    case round =>
      obtain ⟨f,q,ok,rfl,rfl,hq,hB⟩:=hrel
      have hbk:=cells5 (blk_below hx.out.1 hB.out)
      cases ok with
      | true =>
        have hq1:=(hq.out.2.1 rfl).1
        have hq2:=(hq.out.2.1 rfl).2
        have hq3:=gopen_rd hq.out.1
        obtain ⟨f,rfl⟩ : ∃ f',f = f' + 1:=⟨f - 1,by omega⟩
        cases hok : (gStep H W bl ri be q 3).2 with
        | false =>
          have e1 : gback H W bl ri be 3 (f + 1) q = q:=by simp only [gback,hok];rfl
          rw [e1] at hq1
          have hqo:=Lib.hid hq.out.1
          replace hok:=Lib.hid hok
          replace hq1:=Lib.hid hq1
          clear hq hq2 hq3 e1
          go_wp2_with (first
            | (go_at_call 87;go_must (refine (rebusref05_Step.calls (q:=q) (way:=3) ((h.below hx.out.2).below hB.out) hg (by decide)).mono ?_;rintro e w3 ⟨rfl,hb3⟩;rw [hok.out])))
          go_roundw
          case rel=>exact ⟨0,q,false,rfl,rfl,Lib.hid ⟨hqo.out,fun e=>(by cases e),fun _=>hq1.out⟩,Lib.hid (below_step hB.out hb3)⟩
          case measure=>simp [intOf]
        | true =>
          have e1 : gback H W bl ri be 3 (f + 1) q = gback H W bl ri be 3 f (gStep H W bl ri be q 3).1:=by simp only [gback,hok];rfl
          rw [e1] at hq1
          have hqo:=(gStep_open hg hok).2
          have hlt:=gStep_down hg (by decide) hok
          obtain ⟨j,hj⟩ : ∃ j,(gStep H W bl ri be q 3).1 = j:=⟨_,rfl⟩
          rw [hj] at hq1 hqo hlt
          have hj0:=(gopen_rd hqo).1
          have hst : gStep H W bl ri be q 3 = (j,true):=Prod.ext hj hok
          replace hqo:=Lib.hid hqo
          replace hst:=Lib.hid hst
          replace hq1:=Lib.hid hq1
          clear hq hok e1 hj
          go_wp2_with (first
            | (go_at_call 87;go_must (refine (rebusref05_Step.calls (q:=q) (way:=3) ((h.below hx.out.2).below hB.out) hg (by decide)).mono ?_;rintro e w3 ⟨rfl,hb3⟩;rw [hst.out])))
          go_roundw
          case rel=>exact ⟨f,j,true,rfl,rfl,Lib.hid ⟨hqo.out,fun _=>⟨hq1.out,by omega⟩,fun e=>(by cases e)⟩,Lib.hid (below_step hB.out hb3)⟩
          case measure=>simp [intOf];omega
      | false =>
        have hqf:=hq.out.2.2 rfl
        have hqo:=hq.out.1
        rw [hqf] at hqo ⊢
        have hfo:=gopen_rd hqo
        clear hq hqf
        replace hqo:=Lib.hid hqo
        go_wp2_with (((with_reducible refine gate_dst (N:=25) rfl ?_);go_must (refine Kd.R_lit (Kd.int .i64) _ 3 ?hg (N:=25) ?hd (xs:=([first] : List Int)) (inner:=[.int .i64 first]) (ok:=fun _=>True) (okp:=fun _=>True) ?hr ?hp (fun _ hk=>hk) trivial (Below.refl _ _) (Nat.le_refl _) (by simp) ?_;(case hd=>rfl);(case hg=>rfl);(case hr=>first | (go_simp;done) | (go_simp;rfl));(case hp=>exact (Reps.one (show Kd.M (Kd.int .i64) _ _ _ first [.int .i64 first] from rfl) (Reps.none _ _)));intro v1 w4 ho1 hb1 hg_ hnew_;clear hg_ hnew_;have hB4:=Lib.hid (below_step hB.out hb1);have hO4:=Lib.hid (Kd.R_lower ho1 (below_size hB.out));clear ho1 hb1)))
        go_hide hQ
        go_loopw [1,11,12] (fun t v v12 wi=>∃ (f : Nat) (j : Int) (ok : Bool) (xs : List Int),t = .int .i64 j ∧ v12 = .bool ok ∧ Hid (ok = true → (xs ++ (grun H W bl ri be 1 f j).tail = R) ∧ 0 ≤ j ∧ j < bl.length ∧ (bl.length : Int) - j ≤ f ∧ (xs.length : Int) ≤ j + 1) ∧ Hid (ok = false → xs = R) ∧ Hid (xs.length ≤ 300) ∧ Hid (Kd.R (Kd.int .i64) 3 wi w1.heap.size (fun _=>True) v xs) ∧ Hid (Below w1.heap.size w1 wi)) (fun t _ v12 _=>match v12 with | .bool true=>bl.length - (intOf t).toNat + 1 | _=>0)
        case atStart=>exact ⟨bl.length,first,true,[first],rfl,rfl,Lib.hid (fun _=>⟨by
            rw [← hR0.out]
            obtain ⟨k,hk⟩ : ∃ k,bl.length = k + 1:=⟨bl.length - 1,by omega⟩
            rw [hk]
            unfold grun
            split <;> rfl,hfo.1,hfo.2.1,by omega,by simp;omega⟩),Lib.hid (fun e=>(by cases e)),Lib.hid (by simp),hO4,hB4⟩
        case round =>
          clear hO4 hB4
          obtain ⟨f,j,ok,xs,rfl,rfl,hj,hxs,hxl,hO,hBi⟩:=hrel
          have hbi:=cells5 (blk_below hx.out.1 hBi.out)
          cases ok with
          | true =>
            obtain ⟨hj1,hj2,hj3,hj4,hj5⟩:=hj.out rfl
            obtain ⟨f,rfl⟩ : ∃ f',f = f' + 1:=⟨f - 1,by omega⟩
            cases hok : (gStep H W bl ri be j 1).2 with
            | false =>
              have hrun : grun H W bl ri be 1 (f + 1) j = [j]:=by simp only [grun,hok];rfl
              rw [hrun] at hj1
              have hj1:=Lib.hid (show xs = R by simpa using hj1)
              replace hok:=Lib.hid hok
              clear hj hxs hrun hj5
              go_wp2_with (first
                | (go_at_call 87;go_must (refine (rebusref05_Step.calls (q:=j) (way:=1) ((h.below hx.out.2).below hBi.out) hg (by decide)).mono ?_;rintro e w5 ⟨rfl,hb5⟩;rw [hok.out])))
              go_roundw
              case rel=>exact ⟨0,_,false,xs,rfl,rfl,Lib.hid (fun e=>(by cases e)),Lib.hid (fun _=>hj1.out),hxl,Lib.hid (Kd.R_below hO.out hb5),Lib.hid (below_step hBi.out hb5)⟩
              case measure=>simp [intOf]
            | true =>
              have hyes:=gStep_yes hg (by decide) hok
              have hrun : grun H W bl ri be 1 (f + 1) j = j :: grun H W bl ri be 1 f (gStep H W bl ri be j 1).1:=by simp only [grun,hok];rfl
              obtain ⟨j2,hj6⟩ : ∃ j2,(gStep H W bl ri be j 1).1 = j2:=⟨_,rfl⟩
              have hst : gStep H W bl ri be j 1 = (j2,true):=Prod.ext hj6 hok
              rw [hrun,hj6] at hj1
              rw [hj6] at hyes
              have hj1:=Lib.hid (show xs ++ grun H W bl ri be 1 f j2 = R by simpa using hj1)
              have hgh : ∃ t,grun H W bl ri be 1 f j2 = j2 :: t:=by cases f <;> simp only [grun] <;> first | exact ⟨_,rfl⟩ | (split <;> exact ⟨_,rfl⟩)
              replace hgh:=Lib.hid hgh
              have hlen : xs.length + 1 < 17592186044416:=by omega
              replace hlen:=Lib.hid hlen
              replace hst:=Lib.hid hst
              clear hj hxs hrun hok hj6
              go_wp2_with (first
                | (go_at_call 87;go_must (refine (rebusref05_Step.calls (q:=j) (way:=1) ((h.below hx.out.2).below hBi.out) hg (by decide)).mono ?_;rintro e w5 ⟨rfl,hb5⟩;rw [hst.out];have hO5:=Lib.hid (Kd.R_below hO.out hb5);have hB5:=below_step hBi.out hb5))
                | ((with_reducible refine gate_builtin (b:=.append) (xs:=#[.tmp 35,.tmp 37]) rfl ?_);go_must (at_builtin;refine Kd.R_append (Kd.int .i64) (w0:=w1) w1.heap.size rfl (.tmp 35) (.tmp 37) 46 3 (.int .i64 0) 8 rfl Tryz.underlying46 int_info rfl (by decide) (by decide) _ xs j2 [.int .i64 j2] (fun _=>True) (fun _=>False) rfl rfl ?aP (fun _ hk=>hk.elim) ?aF ?aO ?aB ?aS ?aL ?_;(case aP=>exact rfl);(case aB=>exact hB5);(case aF=>exact (fun _ _=>trivial));(case aO=>exact hO5.out);(case aS=>exact hB5.size);(case aL=>have:=hlen.out;omega);intro v6 w6 ho6 hb6 hg6 hat6)))
              go_roundw
              case rel=>exact ⟨f,j2,true,xs ++ [j2],rfl,rfl,Lib.hid (fun _=>⟨by
                  obtain ⟨t,ht⟩:=hgh.out
                  have:=hj1.out
                  rw [ht] at this ⊢
                  simpa using this,by omega,by omega,by omega,by simp only [List.length_append,List.length_singleton];omega⟩),Lib.hid (fun e=>(by cases e)),Lib.hid (by simp only [List.length_append,List.length_singleton];omega),Lib.hid ho6,Lib.hid hb6⟩
              case measure=>simp [intOf];omega
          | false =>
            have hxr:=Lib.hid (hxs.out rfl)
            clear hj hxs
            go_wp2
            subst hQ
            go_wp2
            go_ret
            refine ⟨_,rfl,?_,below_step hx.out.2 hBi.out⟩
            rw [← hxr.out]
            exact Kd.R_lower hO.out (below_size hx.out.2)
end Go.Proofs.YtpfbcepgmigeiaaGreatDoor.Q
end
