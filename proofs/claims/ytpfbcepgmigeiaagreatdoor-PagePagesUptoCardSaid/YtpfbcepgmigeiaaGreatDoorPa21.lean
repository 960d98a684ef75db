/- PART 21 OF A PROOF: Lean functions, and that the program computes them; written by hand and by a program. Not trusted: Lean checks it. -/
import Derived.Lib.FrozenHead2
import Derived.Test.YtpfbcepgmigeiaaGreatDoorPa0
import Derived.Test.YtpfbcepgmigeiaaGreatDoorPa15
import Derived.Test.YtpfbcepgmigeiaaGreatDoorPa16
import Derived.Test.YtpfbcepgmigeiaaGreatDoorPa17
import Derived.Test.YtpfbcepgmigeiaaGreatDoorPa19
import Derived.Test.YtpfbcepgmigeiaaGreatDoorPa20
set_option linter.unusedVariables false
set_option linter.unusedSimpArgs false
section
namespace Go.Proofs.YtpfbcepgmigeiaaGreatDoor.Q
open Go.RowKit Go.Shelf Go.Lib Go.Proofs.YtpfbcepgmigeiaaGreatDoorW.PrintWords Go.Proofs.YtpfbcepgmigeiaaGreatDoorW.PrintLast Go.Proofs.YtpfbcepgmigeiaaGreatDoorW.PrintMore
set_option linter.unusedVariables false
set_option linter.unusedSimpArgs false
open Go.Proofs.YtpfbcepgmigeiaaGreatDoorS
set_option maxHeartbeats 8000000 in
set_option maxRecDepth 1000000 in
theorem clues2_bad {title : ByteArray} {H W : Int} {A2 : Option Addr} {c2 : Nat} {bl : List Bool} {A3 : Option Addr} {c3 : Nat} {ri : List Bool} {A4 : Option Addr} {c4 : Nat} {be : List Bool} {A5 : Option Addr} {c5 : Nat} {cells : List ByteArray} {A6 : Option Addr} {c6 : Nat} {clues : List ByteArray} {w : World} (hP : PuzR A2 c2 bl A3 c3 ri A4 c4 be A5 c5 cells A6 c6 clues w) (hz : PuzS title cells clues) {er : Int} (hp : pcheck title H W bl ri be cells clues = er) (he : er ≠ 0) (down : Bool) (width : Int) :
    Calls Tryz.prog 7 #[.agg #[.string title,.int .i64 H,.int .i64 W,.slice A2 bl.length c2,.slice A3 ri.length c3,.slice A4 be.length c4,.slice A5 cells.length c5,.slice A6 clues.length c6],.bool down,.int .i64 width] w fun e w'=>e = .returned (.tuple #[.slice none 0 0,.int .i64 er]) ∧ Below w.heap.size w w':=by
  have hx:=box1 w (.cells #[.string title,.int .i64 H,.int .i64 W,.slice A2 bl.length c2,.slice A3 ri.length c3,.slice A4 be.length c4,.slice A5 cells.length c5,.slice A6 clues.length c6] 27)
  have px:=cells8 hx.1
  replace hx:=Lib.hid hx
  replace hp:=Lib.hid hp
  have hu27:=Tryz.underlying27
  have hu24:=Tryz.underlying24
  have te : (er != 0) = true:=bne_iff_ne.2 he
  go_enter Tryz.func7,Tryz.ntmps7
  go_wp2_with (go_at_call 18;go_must (refine (rebusref21_Check.calls (hP.below hx.out.2) hz).mono ?_;rw [hp.out];rintro e w3 ⟨rfl,hb3⟩))
  go_ret2
  exact ⟨rfl,below_step hx.out.2 hb3⟩
set_option maxHeartbeats 8000000 in
set_option maxRecDepth 1000000 in
theorem clues2_wide {title : ByteArray} {H W : Int} {A2 : Option Addr} {c2 : Nat} {bl : List Bool} {A3 : Option Addr} {c3 : Nat} {ri : List Bool} {A4 : Option Addr} {c4 : Nat} {be : List Bool} {A5 : Option Addr} {c5 : Nat} {cells : List ByteArray} {A6 : Option Addr} {c6 : Nat} {clues : List ByteArray} {w : World} (hP : PuzR A2 c2 bl A3 c3 ri A4 c4 be A5 c5 cells A6 c6 clues w) (hz : PuzS title cells clues) (hp : pcheck title H W bl ri be cells clues = 0) (down : Bool) (width : Int) (hw : width < 10 ∨ 120 < width) :
    Calls Tryz.prog 7 #[.agg #[.string title,.int .i64 H,.int .i64 W,.slice A2 bl.length c2,.slice A3 ri.length c3,.slice A4 be.length c4,.slice A5 cells.length c5,.slice A6 clues.length c6],.bool down,.int .i64 width] w fun e w'=>e = .returned (.tuple #[.slice none 0 0,.int .i64 200]) ∧ Below w.heap.size w w':=by
  have hx:=box1 w (.cells #[.string title,.int .i64 H,.int .i64 W,.slice A2 bl.length c2,.slice A3 ri.length c3,.slice A4 be.length c4,.slice A5 cells.length c5,.slice A6 clues.length c6] 27)
  have px:=cells8 hx.1
  replace hx:=Lib.hid hx
  replace hp:=Lib.hid hp
  have hu27:=Tryz.underlying27
  have hu24:=Tryz.underlying24
  have t0 : ((0 : Int) != 0) = false:=rfl
  rcases hw with hw | hw
  · have t1 : decide (width < 10) = true:=decide_eq_true hw
    go_enter Tryz.func7,Tryz.ntmps7
    go_wp2_with (go_at_call 18;go_must (refine (rebusref21_Check.calls (hP.below hx.out.2) hz).mono ?_;rw [hp.out];rintro e w3 ⟨rfl,hb3⟩))
    go_ret2
    exact ⟨rfl,below_step hx.out.2 hb3⟩
  · have t1 : decide (width < 10) = false:=decide_eq_false (by omega)
    have t2 : decide (120 < width) = true:=decide_eq_true hw
    go_enter Tryz.func7,Tryz.ntmps7
    go_wp2_with (go_at_call 18;go_must (refine (rebusref21_Check.calls (hP.below hx.out.2) hz).mono ?_;rw [hp.out];rintro e w3 ⟨rfl,hb3⟩))
    go_ret2
    exact ⟨rfl,below_step hx.out.2 hb3⟩
theorem first_line (p x : ByteArray) : p ++ ⟨#[46,32]⟩ ++ x = p ++ ⟨#[46]⟩ ++ spc ++ x:=by
  have h : (⟨#[46,32]⟩ : ByteArray) = ⟨#[46]⟩ ++ spc:=rfl
  rw [h,← ByteArray.append_assoc]
theorem next_line (x : ByteArray) : (⟨#[32,32,32,32,32]⟩ : ByteArray) ++ x = spB 4 ++ spc ++ x:=rfl
theorem sp_cons (k : Nat) (s : ByteArray) : (⟨#[32]⟩ : ByteArray) ++ (spB k ++ s) = spB (k + 1) ++ s:=by
  have h : (⟨#[32]⟩ : ByteArray) ++ spB k = spB (k + 1):=by
    apply ByteArray.ext
    apply Array.toList_inj.1
    simp [spB,List.replicate_succ]
  rw [← ByteArray.append_assoc,h]
set_option maxHeartbeats 8000000 in
set_option maxRecDepth 1000000 in
theorem clues2_ok {title : ByteArray} {H W : Int} {A2 : Option Addr} {c2 : Nat} {bl : List Bool} {A3 : Option Addr} {c3 : Nat} {ri : List Bool} {A4 : Option Addr} {c4 : Nat} {be : List Bool} {A5 : Option Addr} {c5 : Nat} {cells : List ByteArray} {A6 : Option Addr} {c6 : Nat} {clues : List ByteArray} {w : World} (hP : PuzR A2 c2 bl A3 c3 ri A4 c4 be A5 c5 cells A6 c6 clues w) (hz : PuzS title cells clues) (hp : pcheck title H W bl ri be cells clues = 0) (down : Bool) {width : Int} (hw1 : 10 ≤ width) (hw2 : width ≤ 120) :
    Calls Tryz.prog 7 #[.agg #[.string title,.int .i64 H,.int .i64 W,.slice A2 bl.length c2,.slice A3 ri.length c3,.slice A4 be.length c4,.slice A5 cells.length c5,.slice A6 clues.length c6],.bool down,.int .i64 width] w (DrawOk (cluesB H W bl ri be clues down width) w):=by
  obtain ⟨hg,-,-,hcl,hli⟩:=pcheck_right hp
  obtain ⟨hH,hW,hl⟩:=gcheck_ok hg
  have hm:=mul_small hH hW
  have hn : 1 ≤ bl.length ∧ bl.length ≤ 256:=by omega
  have hnum:=slots_num hg hn.2
  have hfac : (slotsOf H W bl ri be).length ≤ 512:=by have:=(slotsOf_facts hg).1;omega
  have hLs : slots_List.f H W bl ri be = some (slotsOf H W bl ri be):=rfl
  have hgood:=fun m hm=>(clues_good (down:=down) hw1 hli hnum hcl m hm).2
  unfold cluesB
  obtain ⟨L,hL⟩ : ∃ L,slotsOf H W bl ri be = L:=⟨_,rfl⟩
  rw [hL] at hnum hfac hLs hcl hgood ⊢
  have hx:=box1 w (.cells #[.string title,.int .i64 H,.int .i64 W,.slice A2 bl.length c2,.slice A3 ri.length c3,.slice A4 be.length c4,.slice A5 cells.length c5,.slice A6 clues.length c6] 27)
  have px:=cells8 hx.1
  replace hx:=Lib.hid hx
  replace hp:=Lib.hid hp
  replace hnum:=Lib.hid hnum
  replace hgood:=Lib.hid hgood
  replace hfac:=Lib.hid hfac
  replace hLs:=Lib.hid hLs
  replace hL:=Lib.hid hL
  replace hm:=Lib.hid hm
  replace hl:=Lib.hid hl
  replace hg:=Lib.hid hg
  replace hcl:=Lib.hid hcl
  replace hli:=Lib.hid hli
  have hu27:=Tryz.underlying27
  have hu24:=Tryz.underlying24
  have hu36:=Tryz.underlying48
  have hz0:=hz
  replace hz:=Lib.hid hz
  have t0 : ((0 : Int) != 0) = false:=rfl
  have ew5 : wrap64 (width - 5) = width - 5:=w64 (by omega) (by omega)
  go_enter Tryz.func7,Tryz.ntmps7
  go_wp2_with (first
    | (go_at_call 18;go_must (refine (rebusref21_Check.calls (hP.below hx.out.2) hz0).mono ?_;rw [hp.out];rintro e w3 ⟨rfl,hb3⟩;have P3:=Lib.hid (blk_below hx.out.1 hb3);have p3:=cells8 P3.out;have B3:=Lib.hid (below_step hx.out.2 hb3);clear hb3))
    | (go_at_call 19;go_must (refine (rebusref07_List.calls (hP.below B3.out).gridC).mono ?_;rw [hL.out];rintro e w7 ⟨vL,rfl,hS7,hb7⟩;obtain ⟨AL,cL,rfl⟩:=Kd.S_slice hS7;replace hS7:=Lib.hid (Kd.S_lower hS7 B3.out.size);have P7:=Lib.hid (blk_below P3.out hb7);have B7:=Lib.hid (below_step B3.out hb7);clear hb7 p3 P3 B3)))
  clear px
  go_loopw [9,11] (fun v9 v33 wr=>∃ (m : Nat) (j : Int),v33 = .int .i64 j ∧ Hid (j = m ∧ m ≤ L.length) ∧ Hid (wr.heap[w.heap.size]? = some (.cells #[.string title,.int .i64 H,.int .i64 W,.slice A2 bl.length c2,.slice A3 ri.length c3,.slice A4 be.length c4,.slice A5 cells.length c5,.slice A6 clues.length c6] 27 (0,0))) ∧ Hid (Kd.R Kd.string 9 wr w.heap.size (fun _=>True) v9 (cluesN L down clues width m)) ∧ Hid (Kd.S k48 48 wr w.heap.size (fun _=>True) (.slice AL L.length cL) L) ∧ Hid (Below w.heap.size w wr)) (fun _ v33 _=>L.length - (intOf v33).toNat)
  case atStart=>exact ⟨0,0,rfl,Lib.hid ⟨rfl,Nat.zero_le _⟩,P7,Lib.hid (Kd.R_nil _ _ _ _ _),hS7,B7⟩
  case round =>
    clear P7 hS7 B7
    obtain ⟨m,j,rfl,hj,P7,R7,hS7,B7⟩:=hrel
    by_cases hlt : m < L.length
    · have tlt : decide (j < (L.length : Int)) = true:=decide_eq_true (by have:=hj.out;omega)
      have hj0 : 0 ≤ j:=by have:=hj.out;omega
      have hj1 : j < (L.length : Int):=by have:=hj.out;omega
      have ej : wrap64 (j + 1) = j + 1:=w64 (by omega) (by have:=hfac.out;omega)
      obtain ⟨A9,c9,rfl⟩:=Kd.R_slice R7.out
      obtain ⟨ad,Ax,cx,eA,z0,z1,z2,zc,hC⟩:=at_T48 (Kd.S_reads' hS7.out).2.2 j hj0 hj1
      cases eA
      have hjm : rd_T48 L j ∈ L:=by rw [hj.out.1];exact mem_rd hlt
      have hn1:=hnum.out _ hjm
      have hsn : cluesN L down clues width (m + 1) = cluesN L down clues width m ++ clueAt L down clues width m:=rfl
      unfold clueAt dnAt at hsn
      rw [← hj.out.1] at hsn
      obtain ⟨x,hx2⟩ : ∃ x,rd_T48 L j = x:=⟨_,rfl⟩
      rw [hx2] at z0 z1 z2 zc hjm hsn hn1
      have hxn0 : 1 ≤ x.f0:=hn1.1
      have hxn1 : x.f0 ≤ 256:=hn1.2
      have hln0 : (cluesN L down clues width m).length ≤ 2000000:=by have h1:=hgood.out m (by omega);have h2:=hfac.out;omega
      have hln1 : (cluesN L down clues width (m + 1)).length ≤ 2000000:=by have h1:=hgood.out (m + 1) hlt;have h2:=hfac.out;omega
      obtain ⟨ad6,eA6,z6⟩:=Kd.at_string (hP.below B7.out).r6 j hj0 (by rw [hcl.out];exact hj1)
      cases eA6
      have hlc:=line_at hli.out (m:=m) (by rw [hcl.out];exact hlt)
      rw [← hj.out.1] at hlc
      obtain ⟨c,hc⟩ : ∃ c,rdOf ByteArray.empty clues j = c:=⟨_,rfl⟩
      rw [hc] at z6 hlc hsn
      by_cases hd : x.f1 = down
      · have hd2 : (x.f1 == down) = true:=by rw [hd];exact beq_self_eq_true down
        have hjc : j < (clues.length : Int):=by rw [hcl.out];exact hj1
        rw [if_pos hd2] at hsn
        obtain ⟨rs,hrv,hre⟩:=valid_runes hlc.1
        have hrz : (en rs).length ≤ 960:=by rw [← eb_size,← hre];exact hlc.2
        have hwrap:=fun w=>wrap2_calls hrv hrz (width:=width - 5) (by omega) (by omega) w
        rw [← hre] at hwrap
        obtain ⟨T,t1,-,t3,t4⟩:=good_clue hxn0 hxn1 hlc.1 hlc.2 hw1
        have hTe : wwL c (width - 5) = T:=by unfold wwL;rw [t1];rfl
        rw [hTe] at hwrap hsn
        have hd4:=hdB_size hxn0 hxn1
        have hno:=num_ok hxn0 hxn1
        have hcat : hdB x.f0 = spB (3 - (itoaB x.f0).size) ++ itoaB x.f0 ++ ⟨#[46]⟩:=rfl
        obtain ⟨hd0,hhd⟩ : ∃ y,hdB x.f0 = y:=⟨_,rfl⟩
        have hsn2 : cluesN L down clues width (m + 1) = cluesN L down clues width m ++ ((if T.length = 0 then [hd0] else []) ++ tailL hd0 T):=by rw [hsn];unfold clueL;rw [hhd]
        rw [hhd] at hd4 hcat
        obtain ⟨y,hy⟩ : ∃ y,itoaB x.f0 = y:=⟨_,rfl⟩
        rw [hy] at hno hcat
        have hys : y.size ≤ 3:=hno.1
        obtain ⟨F,hF⟩ : ∃ F,cluesN L down clues width (m + 1) = F:=⟨_,rfl⟩
        rw [hF] at hsn2 hln1
        obtain ⟨C,hC2⟩ : ∃ C,cluesN L down clues width m = C:=⟨_,rfl⟩
        rw [hC2] at hsn2 hln0 R7
        have hCl : (cluesN L down clues width m).length = C.length:=congrArg List.length hC2
        rw [hCl]
        replace hF:=Lib.hid hF
        replace hC2:=Lib.hid hC2
        replace hCl:=Lib.hid hCl
        replace hsn2:=Lib.hid hsn2
        replace hcat:=Lib.hid hcat
        replace hy:=Lib.hid hy
        replace hhd:=Lib.hid hhd
        replace hd4:=Lib.hid hd4
        replace hwrap:=Lib.hid hwrap
        replace hx2:=Lib.hid hx2
        replace t3:=Lib.hid t3
        replace hc:=Lib.hid hc
        replace hd:=Lib.hid hd
        clear hno hTe t1 hrv hrz hre hlc hjm hn1 hC hsn zc
        have p7:=cells8 P7.out
        have tok1 : True:=trivial
        go_wp2_with (first
          | (go_at_call 20;go_must (refine (decimal_calls hxn0 hxn1 _).mono ?_;rw [hy.out];rintro e w9 ⟨rfl,D9⟩;have P9:=Lib.hid (blk_below P7.out D9);have p9:=cells8 P9.out;have R9:=Lib.hid (Kd.R_below R7.out D9);have S9:=Lib.hid (Kd.S_below hS7.out D9);have B9:=Lib.hid (below_step B7.out D9);have z69:=pw_cell_below D9 z6;clear D9 p7)))
        go_hide hQ
        obtain ⟨wo,hwo⟩ : ∃ x,x = w9:=⟨_,rfl⟩
        go_loopw [12] (fun v12 wi=>∃ (k : Nat) (d : ByteArray),v12 = .string d ∧ Hid (d = spB k ++ y ∧ k + y.size ≤ 3) ∧ wi = wo) (fun v12 _=>3 - strSz v12)
        case atStart=>exact ⟨0,y,rfl,Lib.hid ⟨by rw [show spB 0 = ByteArray.empty from rfl,ByteArray.empty_append],by omega⟩,hwo.symm⟩
        case round =>
          obtain ⟨k,d,rfl,hd9,rfl⟩:=hrel
          subst hwo
          have hdz : d.size = k + y.size:=by rw [hd9.out.1,ByteArray.size_append,spB_size]
          by_cases hk3 : k + y.size < 3
          · have tk3 : decide (d.size < 3) = true:=decide_eq_true (by omega)
            have tk4 : decide ((d.size : Int) < 3) = true:=decide_eq_true (by omega)
            have hdd : (⟨#[32]⟩ : ByteArray) ++ d = spB (k + 1) ++ y:=by rw [hd9.out.1,sp_cons]
            have big1 : ¬ 9223372036854775807 < 1 + d.size:=by omega
            have hd9k:=hd9.out.2
            have hds : d.size < 3:=by omega
            replace hdd:=Lib.hid hdd
            replace hdz:=Lib.hid hdz
            go_wp2
            refine ⟨⟨k + 1,⟨#[32]⟩ ++ d,rfl,Lib.hid ⟨hdd.out,by omega⟩,(by first | rfl | trivial)⟩,?_⟩
            simp only [strSz,ByteArray.size_append]
            have e1 : (⟨#[32]⟩ : ByteArray).size = 1:=rfl
            omega
          · have tk3 : decide (d.size < 3) = false:=decide_eq_false (by omega)
            have tk4 : decide ((d.size : Int) < 3) = false:=decide_eq_false (by omega)
            have hd3 : d.size = 3:=by have:=hd9.out.2;omega
            have hcat2 : hd0 = d ++ ⟨#[46]⟩:=by rw [hcat.out,hd9.out.1,show 3 - y.size = k by have:=hd9.out.2;omega]
            have big1 : ¬ 9223372036854775807 < d.size + 1:=by omega
            have hds : d.size ≤ 3:=by omega
            have hds2 : ¬ d.size < 3:=by omega
            replace hd3:=Lib.hid hd3
            replace hdz:=Lib.hid hdz
            replace hcat2:=Lib.hid hcat2
            obtain ⟨hs,hhs0⟩ : ∃ h,d = h:=⟨_,rfl⟩
            subst hhs0
            subst hQ
            by_cases hT0 : T.length = 0
            · have tT : ((T.length : Int) == 0) = true:=by rw [hT0];rfl
              have hTn : tailL hd0 T = []:=by rw [List.eq_nil_of_length_eq_zero hT0];rfl
              replace hTn:=Lib.hid hTn
              replace hT0:=Lib.hid hT0
              go_wp2_with (first
                | (go_at_call 21;go_must (refine (hwrap.out _).mono ?_;rintro e w5 ⟨vT,rfl,RT,hb⟩;obtain ⟨AT,cT,rfl⟩:=Kd.R_slice RT;replace RT:=Lib.hid (Kd.R_lower (Kd.R_newR RT R9.out) B9.out.size);have P5:=Lib.hid (blk_below P9.out hb);have R5:=Lib.hid (Kd.R_below R9.out hb);have S5:=Lib.hid (Kd.S_below S9.out hb);have B5:=Lib.hid (below_step B9.out hb);clear hb p9 P7 P9 R7 R9 hS7 S9 B7 B9))
                | ((with_reducible refine gate_builtin (b:=.append) (xs:=#[.tmp 68,.tmp 71]) rfl ?_);go_must (at_builtin;refine Kd.R_append Kd.string (w0:=w) w.heap.size rfl (.tmp 68) (.tmp 71) 25 9 (.string ⟨#[]⟩) 16 rfl Tryz.underlying25 str_info rfl (by decide) (by decide) _ C (d ++ (⟨#[46]⟩ : ByteArray)) [.string (d ++ (⟨#[46]⟩ : ByteArray))] (fun _=>True) (fun _=>False) rfl ?hx rfl (fun _ hk=>hk.elim) (fun _ _=>trivial) R5.out B5.out (B5.out).size ?aL ?_;(case hx=>first | rfl | (go_simp;done) | (go_simp;rfl));(case aL=>omega);intro v6 w6 R6 hb hg ha;replace R6:=Lib.hid R6;have B6:=Lib.hid hb;have G6:=Lib.hid hg;have H6:=Lib.hid ha;clear hb hg ha)))
              go_hide hQ
              obtain ⟨wo2,rfl⟩ : ∃ x,x = w6:=⟨_,rfl⟩
              go_loopw [9,15] (fun v9 v15 wi=>∃ (k : Nat) (q : Int) (M : List ByteArray),v15 = .int .i64 q ∧ Hid (q = k ∧ k ≤ T.length) ∧ Hid (M ++ tailL (if k = 0 then hd0 else spB 4) (T.drop k) = F) ∧ Hid (wi.heap[w.heap.size]? = some (.cells #[.string title,.int .i64 H,.int .i64 W,.slice A2 bl.length c2,.slice A3 ri.length c3,.slice A4 be.length c4,.slice A5 cells.length c5,.slice (some ad6) clues.length c6] 27 (0,0))) ∧ Hid (Kd.R Kd.string 9 wi w.heap.size (fun _=>True) v9 M) ∧ Hid (Kd.R Kd.string 9 wi w.heap.size (fun k_=>True ∧ some k_ ≠ v9.ownBlock) (.slice AT T.length cT) T) ∧ Hid (Kd.S k48 48 wi w.heap.size (fun _=>True) (.slice (some ad) L.length cL) L) ∧ Hid (Below w.heap.size w wi)) (fun _ v15 _=>T.length - (intOf v15).toNat)
              case atStart=>exact ⟨0,0,_,rfl,Lib.hid ⟨rfl,Nat.zero_le _⟩,Lib.hid (by rw [List.drop_zero,if_pos rfl,hTn.out,List.append_nil];have h1:=hsn2.out;rw [if_pos hT0.out,hTn.out,List.append_nil] at h1;rw [h1,hcat2.out]),Lib.hid (blk_grown P5.out G6.out (Kd.R_ne R5.out P5.out (by decide))),R6,Lib.hid (Kd.R_after RT.out G6.out H6.out),Lib.hid (Kd.S_over' S5.out (Kd.R_typed R5.out) (by decide) G6.out),B6⟩
              case round =>
                clear P5 R5 RT S5 B5 R6 B6 G6 H6
                obtain ⟨k2,q,M,rfl,hq,hM,P5,R5,RT,S5,B5⟩:=hrel
                have hq0 : 0 ≤ q:=by have:=hq.out;omega
                by_cases hk : k2 < T.length
                · have tk : decide (q < (T.length : Int)) = true:=decide_eq_true (by have:=hq.out;omega)
                  have hq1 : q < (T.length : Int):=by have:=hq.out;omega
                  have hM2:=hM.out
                  rw [tailL_drop hk,← hq.out.1] at hM2
                  obtain ⟨x2,hxx⟩ : ∃ s,rdOf ByteArray.empty T q = s:=⟨_,rfl⟩
                  obtain ⟨adt,eAT,zt⟩:=Kd.at_string (Kd.R_reads' RT.out).2.2 q hq0 hq1
                  cases eAT
                  have hxm : x2 ∈ T:=by rw [← hxx];exact prd_mem (by have:=hq.out;omega)
                  rw [hxx] at hM2 zt
                  have hxz : x2.size ≤ 3000:=t3.out x2 hxm
                  have hMl : M.length ≤ 2000000:=by
                    have h1:=congrArg List.length hM2
                    rw [List.length_append] at h1
                    omega
                  have hq2 : q ≤ 2000000:=by have h2:=congrArg List.length hM2;rw [List.length_append,List.length_cons,tailL_length,List.length_drop] at h2;have:=hq.out;omega
                  replace hxx:=Lib.hid hxx
                  obtain ⟨A9,c9,rfl⟩:=Kd.R_slice R5.out
                  have eqq : wrap64 (q + 1) = q + 1:=w64 (by omega) (by omega)
                  by_cases hk0 : k2 = 0
                  · have hqz : q = 0:=by have:=hq.out;omega
                    have tq0 : (q == 0) = true:=by rw [hqz];rfl
                    have big3 : ¬ 9223372036854775807 < d.size + 2:=by omega
                    have big4 : ¬ 9223372036854775807 < d.size + 2 + x2.size:=by omega
                    have hM3 : (M ++ [d ++ ⟨#[46,32]⟩ ++ x2]) ++ tailL (spB 4) (T.drop (k2 + 1)) = F:=by
                      rw [if_pos hk0,hcat2.out] at hM2
                      rw [first_line,List.append_assoc]
                      exact hM2
                    replace hM3:=Lib.hid hM3
                    replace hqz:=Lib.hid hqz
                    replace hk0:=Lib.hid hk0
                    clear hM hM2 hxm
                    go_wp2_with (first
                      | ((with_reducible refine gate_builtin (b:=.append) (xs:=#[.tmp 81,.tmp 89]) rfl ?_);go_must (at_builtin;refine Kd.R_append Kd.string (w0:=w) w.heap.size rfl (.tmp 81) (.tmp 89) 25 9 (.string ⟨#[]⟩) 16 rfl Tryz.underlying25 str_info rfl (by decide) (by decide) _ M (d ++ (⟨#[46,32]⟩ : ByteArray) ++ x2) [.string (d ++ (⟨#[46,32]⟩ : ByteArray) ++ x2)] (fun _=>True) (fun _=>False) rfl ?hx rfl (fun _ hk=>hk.elim) (fun _ _=>trivial) R5.out B5.out (B5.out).size ?aL ?_;(case hx=>first | rfl | (go_simp;done) | (go_simp;rfl));(case aL=>omega);intro v7 w7 R7 hb hg ha;replace R7:=Lib.hid R7;have B7:=Lib.hid hb;have G7:=Lib.hid hg;have H7:=Lib.hid ha;clear hb hg ha)))
                    refine ⟨⟨k2 + 1,q + 1,M ++ [d ++ ⟨#[46,32]⟩ ++ x2],(by first | rfl | exact congrArg (Value.int .i64) eqq),Lib.hid ⟨by have:=hq.out;omega,hk⟩,Lib.hid (by rw [if_neg (by omega)];exact hM3.out),Lib.hid (blk_grown P5.out G7.out (Kd.R_ne R5.out P5.out (by decide))),R7,Lib.hid (Kd.R_after RT.out G7.out H7.out),Lib.hid (Kd.S_over' S5.out (Kd.R_typed R5.out) (by decide) G7.out),B7⟩,?_⟩
                    simp only [intOf];have:=hq.out;omega
                  · have hqz : ¬ q = 0:=by have:=hq.out;omega
                    have tq0 : (q == 0) = false:=by simpa using hqz
                    have big4 : ¬ 9223372036854775807 < 5 + x2.size:=by omega
                    have hM3 : (M ++ [⟨#[32,32,32,32,32]⟩ ++ x2]) ++ tailL (spB 4) (T.drop (k2 + 1)) = F:=by
                      rw [if_neg hk0] at hM2
                      rw [next_line,List.append_assoc]
                      exact hM2
                    replace hM3:=Lib.hid hM3
                    replace hqz:=Lib.hid hqz
                    replace hk0:=Lib.hid hk0
                    clear hM hM2 hxm
                    go_wp2_with (first
                      | ((with_reducible refine gate_builtin (b:=.append) (xs:=#[.tmp 91,.tmp 97]) rfl ?_);go_must (at_builtin;refine Kd.R_append Kd.string (w0:=w) w.heap.size rfl (.tmp 91) (.tmp 97) 25 9 (.string ⟨#[]⟩) 16 rfl Tryz.underlying25 str_info rfl (by decide) (by decide) _ M ((⟨#[32,32,32,32,32]⟩ : ByteArray) ++ x2) [.string ((⟨#[32,32,32,32,32]⟩ : ByteArray) ++ x2)] (fun _=>True) (fun _=>False) rfl ?hx rfl (fun _ hk=>hk.elim) (fun _ _=>trivial) R5.out B5.out (B5.out).size ?aL ?_;(case hx=>first | rfl | (go_simp;done) | (go_simp;rfl));(case aL=>omega);intro v7 w7 R7 hb hg ha;replace R7:=Lib.hid R7;have B7:=Lib.hid hb;have G7:=Lib.hid hg;have H7:=Lib.hid ha;clear hb hg ha)))
                    refine ⟨⟨k2 + 1,q + 1,M ++ [⟨#[32,32,32,32,32]⟩ ++ x2],(by first | rfl | exact congrArg (Value.int .i64) eqq),Lib.hid ⟨by have:=hq.out;omega,hk⟩,Lib.hid (by rw [if_neg (by omega)];exact hM3.out),Lib.hid (blk_grown P5.out G7.out (Kd.R_ne R5.out P5.out (by decide))),R7,Lib.hid (Kd.R_after RT.out G7.out H7.out),Lib.hid (Kd.S_over' S5.out (Kd.R_typed R5.out) (by decide) G7.out),B7⟩,?_⟩
                    simp only [intOf];have:=hq.out;omega
                · have tk : decide (q < (T.length : Int)) = false:=decide_eq_false (by have:=hq.out;omega)
                  have hE : M = F:=by
                    have h1:=hM.out
                    rw [List.drop_of_length_le (by omega)] at h1
                    simpa [tailL] using h1
                  replace hE:=Lib.hid hE
                  subst hQ
                  go_wp2
                  refine ⟨⟨m + 1,j + 1,(by first | rfl | exact congrArg (Value.int .i64) ej),Lib.hid ⟨by have:=hj.out;omega,hlt⟩,P5,Lib.hid (by rw [hF.out,← hE.out];exact R5.out),S5,B5⟩,?_⟩
                  simp only [intOf];have:=hj.out;omega
            · have tT : ((T.length : Int) == 0) = false:=by rw [beq_eq_false_iff_ne];omega
              go_wp2_with (first
                | (go_at_call 21;go_must (refine (hwrap.out _).mono ?_;rintro e w5 ⟨vT,rfl,RT,hb⟩;obtain ⟨AT,cT,rfl⟩:=Kd.R_slice RT;replace RT:=Lib.hid (Kd.R_lower (Kd.R_newR RT R9.out) B9.out.size);have P5:=Lib.hid (blk_below P9.out hb);have R5:=Lib.hid (Kd.R_below R9.out hb);have S5:=Lib.hid (Kd.S_below S9.out hb);have B5:=Lib.hid (below_step B9.out hb);clear hb p9 P7 P9 R7 R9 hS7 S9 B7 B9)))
              go_hide hQ
              obtain ⟨wo2,rfl⟩ : ∃ x,x = w5:=⟨_,rfl⟩
              go_loopw [9,15] (fun v9 v15 wi=>∃ (k : Nat) (q : Int) (M : List ByteArray),v15 = .int .i64 q ∧ Hid (q = k ∧ k ≤ T.length) ∧ Hid (M ++ tailL (if k = 0 then hd0 else spB 4) (T.drop k) = F) ∧ Hid (wi.heap[w.heap.size]? = some (.cells #[.string title,.int .i64 H,.int .i64 W,.slice A2 bl.length c2,.slice A3 ri.length c3,.slice A4 be.length c4,.slice A5 cells.length c5,.slice (some ad6) clues.length c6] 27 (0,0))) ∧ Hid (Kd.R Kd.string 9 wi w.heap.size (fun _=>True) v9 M) ∧ Hid (Kd.R Kd.string 9 wi w.heap.size (fun k_=>True ∧ some k_ ≠ v9.ownBlock) (.slice AT T.length cT) T) ∧ Hid (Kd.S k48 48 wi w.heap.size (fun _=>True) (.slice (some ad) L.length cL) L) ∧ Hid (Below w.heap.size w wi)) (fun _ v15 _=>T.length - (intOf v15).toNat)
              case atStart=>exact ⟨0,0,_,rfl,Lib.hid ⟨rfl,Nat.zero_le _⟩,Lib.hid (by rw [List.drop_zero,if_pos rfl];have h1:=hsn2.out;rw [if_neg hT0,List.nil_append] at h1;exact h1.symm),P5,R5,RT,S5,B5⟩
              case round =>
                clear P5 R5 RT S5 B5
                obtain ⟨k2,q,M,rfl,hq,hM,P5,R5,RT,S5,B5⟩:=hrel
                have hq0 : 0 ≤ q:=by have:=hq.out;omega
                by_cases hk : k2 < T.length
                · have tk : decide (q < (T.length : Int)) = true:=decide_eq_true (by have:=hq.out;omega)
                  have hq1 : q < (T.length : Int):=by have:=hq.out;omega
                  have hM2:=hM.out
                  rw [tailL_drop hk,← hq.out.1] at hM2
                  obtain ⟨x2,hxx⟩ : ∃ s,rdOf ByteArray.empty T q = s:=⟨_,rfl⟩
                  obtain ⟨adt,eAT,zt⟩:=Kd.at_string (Kd.R_reads' RT.out).2.2 q hq0 hq1
                  cases eAT
                  have hxm : x2 ∈ T:=by rw [← hxx];exact prd_mem (by have:=hq.out;omega)
                  rw [hxx] at hM2 zt
                  have hxz : x2.size ≤ 3000:=t3.out x2 hxm
                  have hMl : M.length ≤ 2000000:=by
                    have h1:=congrArg List.length hM2
                    rw [List.length_append] at h1
                    omega
                  have hq2 : q ≤ 2000000:=by have h2:=congrArg List.length hM2;rw [List.length_append,List.length_cons,tailL_length,List.length_drop] at h2;have:=hq.out;omega
                  replace hxx:=Lib.hid hxx
                  obtain ⟨A9,c9,rfl⟩:=Kd.R_slice R5.out
                  have eqq : wrap64 (q + 1) = q + 1:=w64 (by omega) (by omega)
                  by_cases hk0 : k2 = 0
                  · have hqz : q = 0:=by have:=hq.out;omega
                    have tq0 : (q == 0) = true:=by rw [hqz];rfl
                    have big3 : ¬ 9223372036854775807 < d.size + 2:=by omega
                    have big4 : ¬ 9223372036854775807 < d.size + 2 + x2.size:=by omega
                    have hM3 : (M ++ [d ++ ⟨#[46,32]⟩ ++ x2]) ++ tailL (spB 4) (T.drop (k2 + 1)) = F:=by
                      rw [if_pos hk0,hcat2.out] at hM2
                      rw [first_line,List.append_assoc]
                      exact hM2
                    replace hM3:=Lib.hid hM3
                    replace hqz:=Lib.hid hqz
                    replace hk0:=Lib.hid hk0
                    clear hM hM2 hxm
                    go_wp2_with (first
                      | ((with_reducible refine gate_builtin (b:=.append) (xs:=#[.tmp 81,.tmp 89]) rfl ?_);go_must (at_builtin;refine Kd.R_append Kd.string (w0:=w) w.heap.size rfl (.tmp 81) (.tmp 89) 25 9 (.string ⟨#[]⟩) 16 rfl Tryz.underlying25 str_info rfl (by decide) (by decide) _ M (d ++ (⟨#[46,32]⟩ : ByteArray) ++ x2) [.string (d ++ (⟨#[46,32]⟩ : ByteArray) ++ x2)] (fun _=>True) (fun _=>False) rfl ?hx rfl (fun _ hk=>hk.elim) (fun _ _=>trivial) R5.out B5.out (B5.out).size ?aL ?_;(case hx=>first | rfl | (go_simp;done) | (go_simp;rfl));(case aL=>omega);intro v7 w7 R7 hb hg ha;replace R7:=Lib.hid R7;have B7:=Lib.hid hb;have G7:=Lib.hid hg;have H7:=Lib.hid ha;clear hb hg ha)))
                    refine ⟨⟨k2 + 1,q + 1,M ++ [d ++ ⟨#[46,32]⟩ ++ x2],(by first | rfl | exact congrArg (Value.int .i64) eqq),Lib.hid ⟨by have:=hq.out;omega,hk⟩,Lib.hid (by rw [if_neg (by omega)];exact hM3.out),Lib.hid (blk_grown P5.out G7.out (Kd.R_ne R5.out P5.out (by decide))),R7,Lib.hid (Kd.R_after RT.out G7.out H7.out),Lib.hid (Kd.S_over' S5.out (Kd.R_typed R5.out) (by decide) G7.out),B7⟩,?_⟩
                    simp only [intOf];have:=hq.out;omega
                  · have hqz : ¬ q = 0:=by have:=hq.out;omega
                    have tq0 : (q == 0) = false:=by simpa using hqz
                    have big4 : ¬ 9223372036854775807 < 5 + x2.size:=by omega
                    have hM3 : (M ++ [⟨#[32,32,32,32,32]⟩ ++ x2]) ++ tailL (spB 4) (T.drop (k2 + 1)) = F:=by
                      rw [if_neg hk0] at hM2
                      rw [next_line,List.append_assoc]
                      exact hM2
                    replace hM3:=Lib.hid hM3
                    replace hqz:=Lib.hid hqz
                    replace hk0:=Lib.hid hk0
                    clear hM hM2 hxm
                    go_wp2_with (first
                      | ((with_reducible refine gate_builtin (b:=.append) (xs:=#[.tmp 91,.tmp 97]) rfl ?_);go_must (at_builtin;refine Kd.R_append Kd.string (w0:=w) w.heap.size rfl (.tmp 91) (.tmp 97) 25 9 (.string ⟨#[]⟩) 16 rfl Tryz.underlying25 str_info rfl (by decide) (by decide) _ M ((⟨#[32,32,32,32,32]⟩ : ByteArray) ++ x2) [.string ((⟨#[32,32,32,32,32]⟩ : ByteArray) ++ x2)] (fun _=>True) (fun _=>False) rfl ?hx rfl (fun _ hk=>hk.elim) (fun _ _=>trivial) R5.out B5.out (B5.out).size ?aL ?_;(case hx=>first | rfl | (go_simp;done) | (go_simp;rfl));(case aL=>omega);intro v7 w7 R7 hb hg ha;replace R7:=Lib.hid R7;have B7:=Lib.hid hb;have G7:=Lib.hid hg;have H7:=Lib.hid ha;clear hb hg ha)))
                    refine ⟨⟨k2 + 1,q + 1,M ++ [⟨#[32,32,32,32,32]⟩ ++ x2],(by first | rfl | exact congrArg (Value.int .i64) eqq),Lib.hid ⟨by have:=hq.out;omega,hk⟩,Lib.hid (by rw [if_neg (by omega)];exact hM3.out),Lib.hid (blk_grown P5.out G7.out (Kd.R_ne R5.out P5.out (by decide))),R7,Lib.hid (Kd.R_after RT.out G7.out H7.out),Lib.hid (Kd.S_over' S5.out (Kd.R_typed R5.out) (by decide) G7.out),B7⟩,?_⟩
                    simp only [intOf];have:=hq.out;omega
                · have tk : decide (q < (T.length : Int)) = false:=decide_eq_false (by have:=hq.out;omega)
                  have hE : M = F:=by
                    have h1:=hM.out
                    rw [List.drop_of_length_le (by omega)] at h1
                    simpa [tailL] using h1
                  replace hE:=Lib.hid hE
                  subst hQ
                  go_wp2
                  refine ⟨⟨m + 1,j + 1,(by first | rfl | exact congrArg (Value.int .i64) ej),Lib.hid ⟨by have:=hj.out;omega,hlt⟩,P5,Lib.hid (by rw [hF.out,← hE.out];exact R5.out),S5,B5⟩,?_⟩
                  simp only [intOf];have:=hj.out;omega
      · have hd2 : (x.f1 == down) = false:=beq_eq_false_iff_ne.2 hd
        rw [if_neg (by rw [hd2];decide),List.append_nil] at hsn
        replace hsn:=Lib.hid hsn
        replace hd:=Lib.hid hd
        replace hc:=Lib.hid hc
        replace hx2:=Lib.hid hx2
        clear hlc hjm hn1 hC zc
        go_wp2
        refine ⟨⟨m + 1,j + 1,(by first | rfl | exact congrArg (Value.int .i64) ej),Lib.hid ⟨by have:=hj.out;omega,hlt⟩,P7,Lib.hid (by rw [hsn.out];exact R7.out),hS7,B7⟩,?_⟩
        simp only [intOf];have:=hj.out;omega
    · have tlt : decide (j < (L.length : Int)) = false:=decide_eq_false (by have:=hj.out;omega)
      have hmE : m = L.length:=by have:=hj.out;omega
      have R8:=R7.out
      rw [hmE] at R8
      replace R8:=Lib.hid R8
      clear hmE
      go_wp2
      go_ret2
      exact ⟨_,rfl,R8.out,B7.out⟩
end Go.Proofs.YtpfbcepgmigeiaaGreatDoor.Q
end
section
namespace Go.Proofs.YtpfbcepgmigeiaaGreatDoor.Q
open Go.RowKit Go.Shelf Go.Lib Go.Proofs.YtpfbcepgmigeiaaGreatDoorW.PrintWords Go.Proofs.YtpfbcepgmigeiaaGreatDoorW.PrintLast Go.Proofs.YtpfbcepgmigeiaaGreatDoorS
set_option linter.unusedVariables false
set_option linter.unusedSimpArgs false
set_option maxHeartbeats 2000000 in
set_option maxRecDepth 100000 in
theorem bld_WriteByte (B b : Nat) (bs : List Value) (c : Int) (w : World) (h : Lib.IsBuilderF 57 5 B b bs w) (hlen : bs.length + 1 ≤ 140737488355328) (hBw : B ≤ w.heap.size) :
    Calls Tryz.prog 24 #[.pointer (some ⟨b,0,none⟩),.int .u8 c] w fun e w'=>e = .returned .nilIface ∧ (Lib.BuilderAtF 57 5 B b (.pointer (some ⟨b,0,none⟩)) (bs ++ [.int .u8 c]) w' ∧ Below B w w' ∧ Lib.OthersKept 5 (some b) w w'):=by
  obtain ⟨i0,hi,hz0,hz1,hz2⟩:=info_parts bextra.infoByte
  go_enter Tryz.func24,Tryz.ntmps24
  go_wp2_with (go_at_call 58;refine (bld_copyCheck B b bs _ h).mono ?_)
  rintro e w1 ⟨rfl,h1,hb1,hk1⟩
  obtain ⟨hB,v,hbk,hown,hne⟩:=h1
  have c0 : w1.cell? ⟨b,0,none⟩ = some (.pointer (some ⟨b,0,none⟩)):=by rw [Lib.cell_of_heap hbk];rfl
  have c1 : w1.cell? ⟨b,1,none⟩ = some v:=by rw [Lib.cell_of_heap hbk];rfl
  go_wp2_with (at_builtin;refine wpList_append_ownF _ rfl _ _ 55 rfl B 5 i0 (.int .u8 0) 1 1 Tryz.underlying55 hi hz0 hz1 hz2 rfl (by decide) _ _ _ rfl (hown.alloc _) ⟨w1.heap.size,0,none⟩ 1 1 [.int .u8 c] rfl rfl ?c1 ?c2 ?c3 ?c4 ?c5 ?_)
  case c1 =>
    intro j u hj
    match j,hj with
    | 0,hj=>simp at hj;subst hj;simp [Addr.add]
  case c2=>intro u hu;simp at hu;subst hu;rfl
  case c3=>unfold maxLen;omega
  case c4=>omega
  case c5=>have:=hb1.size;simp;omega
  intro v' w2 hown' hgrow _
  have hlt : b < w1.heap.size:=by
    rcases Nat.lt_or_ge b w1.heap.size with h' | h'
    · exact h'
    · simp [Array.getElem?_eq_none h'] at hbk
  have hb2 : w2.heap[b]? = some (.cells #[.pointer (some ⟨b,0,none⟩),v] 57 (0,0)):=by
    rw [hgrow.block b (by simp;omega) (fun e=>hne e.symm),Lib.alloc_old w1 _ b hlt]
    exact hbk
  have d0 : w2.cell? ⟨b,0,none⟩ = some (.pointer (some ⟨b,0,none⟩)):=by rw [Lib.cell_of_heap hb2];rfl
  have d1 : w2.cell? ⟨b,1,none⟩ = some v:=by rw [Lib.cell_of_heap hb2];rfl
  have f1 : w2.frozen? ⟨b,1,none⟩ = false:=Lib.frozen_of_heap hb2 1
  obtain ⟨ao,n',cap,rfl⟩ : ∃ ao n' cap,v' = .slice ao n' cap:=by
    rcases hown'.2 with ⟨hv,_⟩ | ⟨g,cap,cur,fz,hv,_⟩
    · exact ⟨_,_,_,hv⟩
    · exact ⟨_,_,_,hv⟩
  go_wp2
  go_ret
  have ha : B ≤ (w1.alloc (.cells #[.int .u8 c] 5)).heap.size:=by have:=hb1.size;simp;omega
  refine ⟨rfl,?_,?_,((hk1.alloc _).grown hgrow (Lib.ownsRowF_kind (hown.alloc _))).setCell ⟨b,1,none⟩ rfl _⟩
  · exact Lib.BuilderAtF.put (T:=57) (e:=5) hB hb2 (bs':=bs ++ [.int .u8 c]) (by simpa using hown') (by decide)
  · exact ((hb1.alloc (by have:=hb1.size;omega) _).grown hgrow ha (fun k hk=>((hown.alloc (.cells #[.int .u8 c] 5)).lt k hk).1)).setCell (p:=⟨b,1,none⟩) hB _
theorem bld_block {T e B b : Nat} {bs : List Value} {w : World} (h : Lib.IsBuilderF T e B b bs w) : ∃ cs,w.heap[b]? = some (.cells cs T (0,0)):=by
  rcases h with ⟨_,v,h,_⟩ | ⟨_,v,h,_⟩ <;> exact ⟨_,h⟩
theorem R_others {bs : List Value} {B b base : Nat} {ok : Nat → Prop} {w w' : World} {v : Value} {xs : List ByteArray} (h : Kd.R Kd.string 9 w base ok v xs) (hI : Lib.IsBuilderF 57 5 B b bs w) (hk : Lib.OthersKept 5 (some b) w w') : Kd.R Kd.string 9 w' base ok v xs:=by
  obtain ⟨cs,hb⟩:=bld_block hI
  refine Kd.R_mono (Kd.R_move (Kd.R_bound h) (fun k hk2=>?_)) (fun k hk=>hk.1)
  obtain ⟨-,-,-,q,hq,cells,hc⟩:=hk2
  have hq2 : q = 9:=by
    rcases List.mem_cons.1 hq with h | h
    · exact h
    · cases h
  subst hq2
  rw [hc]
  refine hk k _ hc (fun he=>?_) (fun c fz he=>by injection he with _ h2 _;exact absurd h2 (by decide))
  injection he with he
  rw [he,hb] at hc
  injection hc with hc
  injection hc with _ h2 _
  exact absurd h2 (by decide)
theorem lit_one (W : World) (s : ByteArray) : Kd.R Kd.string 9 (W.alloc (.cells #[.string s] 9)) W.heap.size (fun _=>True) (.slice (some ⟨W.heap.size,0,none⟩) 1 1) [s] :=
  Kd.R_of_own (own_lit_of W W.heap.size 9 [s] (Nat.le_refl _) (by simp)) (fun _ _=>trivial)
def catNL (l : List ByteArray) : List UInt8:=l.flatMap fun x=>x.data.toList ++ [10]
theorem catNL_append (a b : List ByteArray) : catNL (a ++ b) = catNL a ++ catNL b:=by simp [catNL]
theorem catNL_len {n : Nat} : ∀ l : List ByteArray,(∀ x ∈ l,x.size ≤ n) → (catNL l).length ≤ l.length * (n + 1)
  | [],_=>Nat.zero_le _
  | x :: l,h=>by
    have ih:=catNL_len l (fun y hy=>h y (List.mem_cons_of_mem _ hy))
    have h1:=h x (List.mem_cons_self ..)
    have e : catNL (x :: l) = (x.data.toList ++ [10]) ++ catNL l:=by simp [catNL]
    have e2 : x.data.toList.length = x.size:=rfl
    rw [e,List.length_append,List.length_append,List.length_singleton,List.length_cons,Nat.succ_mul,e2]
    omega
theorem catNL_snoc {l : List ByteArray} {k : Nat} (hk : k < l.length) : catNL (l.take (k + 1)) = catNL (l.take k) ++ (rdOf ByteArray.empty l (k : Int)).data.toList ++ [10]:=by
  have e : rdOf ByteArray.empty l (k : Int) = l[k]:=by simp [rdOf,List.getD_eq_getElem?_getD,hk]
  rw [List.take_succ_eq_append_getElem hk,catNL_append,e]
  simp [catNL]
theorem catNL_take_len (l : List ByteArray) (k : Nat) : (catNL (l.take k)).length ≤ (catNL l).length:=by
  have h : catNL l = catNL (l.take k) ++ catNL (l.drop k):=by rw [← catNL_append,List.take_append_drop]
  rw [h,List.length_append]
  omega
def acrossB : ByteArray:=⟨#[65,99,114,111,115,115]⟩
def downB : ByteArray:=⟨#[68,111,119,110]⟩
def pageL (title : ByteArray) (D ac dn : List ByteArray) : List ByteArray:=(if title.size = 0 then [] else [title]) ++ D ++ (if ac.length = 0 then [] else [acrossB] ++ ac) ++ (if dn.length = 0 then [] else [downB] ++ dn)
def pageB (title : ByteArray) (H W : Int) (bl ri be : List Bool) (cells clues : List ByteArray) (width : Int) : ByteArray :=
  ⟨(catNL (pageL title (drawB H W bl ri be cells) (cluesB H W bl ri be clues false width) (cluesB H W bl ri be clues true width))).toArray⟩
theorem byteCells_snoc (l : List UInt8) (s : ByteArray) : Lib.byteCells l ++ Lib.strCells s ++ [.int .u8 10] = Lib.byteCells (l ++ s.data.toList ++ [10]):=by
  rw [Lib.byteCells_append,Lib.byteCells_append,Lib.strCells_eq]
  rfl
set_option maxHeartbeats 4000000 in
set_option maxRecDepth 1000000 in
theorem tell_calls {B b base : Nat} {bs : List UInt8} {A : Option Addr} {c : Nat} {l : List ByteArray} {ok : Nat → Prop} {w : World} (hI : Lib.IsBuilderF 57 5 B b (Lib.byteCells bs) w) (hR : Kd.R Kd.string 9 w base ok (.slice A l.length c) l) (hlen : bs.length + (catNL l).length ≤ 70368744177664) (hl : l.length ≤ 70368744177664) :
    Calls Tryz.prog 22 #[.slice A l.length c,.pointer (some ⟨b,0,none⟩)] w fun e w'=>e = .returned (.tuple #[]) ∧ Lib.IsBuilderF 57 5 B b (Lib.byteCells (bs ++ catNL l)) w' ∧ Below B w w' ∧ Lib.OthersKept 5 (some b) w w':=by
  replace hI:=Lib.hid hI
  replace hR:=Lib.hid hR
  replace hlen:=Lib.hid hlen
  go_enter Tryz.func22,Tryz.ntmps22
  go_wp2
  go_loopw [7] (fun v7 wr=>∃ (k : Nat) (q : Int),v7 = .int .i64 q ∧ Hid (q = k ∧ k ≤ l.length) ∧ Hid (Lib.IsBuilderF 57 5 B b (Lib.byteCells (bs ++ catNL (l.take k))) wr) ∧ Hid (Below B w wr) ∧ Hid (Lib.OthersKept 5 (some b) w wr)) (fun v7 _=>l.length - (intOf v7).toNat)
  case atStart=>exact ⟨0,0,rfl,Lib.hid ⟨rfl,Nat.zero_le _⟩,Lib.hid (by rw [List.take_zero,show catNL [] = [] from rfl,List.append_nil];exact hI.out),Lib.hid (Below.refl _ _),Lib.hid (Lib.OthersKept.refl _ _ _)⟩
  case round =>
    obtain ⟨k,q,rfl,hq,hJ,hB,hK⟩:=hrel
    have hq0 : 0 ≤ q:=by have:=hq.out;omega
    by_cases hk : k < l.length
    · have tk : decide (q < (l.length : Int)) = true:=decide_eq_true (by have:=hq.out;omega)
      have hq1 : q < (l.length : Int):=by have:=hq.out;omega
      obtain ⟨ad,eA,z⟩:=Kd.at_string (Kd.R_reads' (R_others hR.out hI.out hK.out)).2.2 q hq0 hq1
      cases eA
      have hsn:=catNL_snoc hk
      have hlk:=catNL_take_len l (k + 1)
      have hl2:=hlen.out
      rw [← hq.out.1] at hsn
      obtain ⟨x,hx⟩ : ∃ x,rdOf ByteArray.empty l q = x:=⟨_,rfl⟩
      rw [hx] at hsn z
      obtain ⟨pre,hpre⟩ : ∃ p,bs ++ catNL (l.take k) = p:=⟨_,rfl⟩
      have hnew : bs ++ catNL (l.take (k + 1)) = pre ++ x.data.toList ++ [10]:=by rw [hsn,← hpre];simp
      have hps : pre.length + x.size + 1 ≤ 70368744177664:=by
        have h1:=congrArg List.length hnew
        have e2 : x.data.toList.length = x.size:=rfl
        rw [List.length_append,List.length_append,List.length_append,List.length_singleton,e2] at h1
        omega
      have hpl : (Lib.byteCells pre).length = pre.length:=Lib.byteCells_length pre
      rw [hpre] at hJ
      have h1 : (Lib.byteCells pre).length + x.size ≤ 140737488355328:=by omega
      have h2 : (Lib.byteCells pre ++ Lib.strCells x).length + 1 ≤ 140737488355328:=by rw [List.length_append,Lib.strCells_length];omega
      have eqq : wrap64 (q + 1) = q + 1:=w64 (by omega) (by omega)
      replace h1:=Lib.hid h1
      replace h2:=Lib.hid h2
      replace hnew:=Lib.hid hnew
      replace hpre:=Lib.hid hpre
      replace hx:=Lib.hid hx
      clear hsn hlk hl2 hpl hps
      go_wp2_with (first
        | (go_at_call 23;go_must (refine (bld_WriteString _ _ _ _ _ hJ.out h1.out (bld_size hJ.out)).mono ?_;rintro e w3 ⟨rfl,hJ3,hb3,hk3⟩;have B3:=Lib.hid (hB.out.trans hb3);have K3:=Lib.hid (hK.out.trans hk3);replace hJ3:=Lib.hid (show Lib.IsBuilderF 57 5 B b _ w3 from .inr hJ3);clear hb3 hk3))
        | (go_at_call 24;go_must (refine (bld_WriteByte _ _ _ 10 _ hJ3.out h2.out (bld_size hJ3.out)).mono ?_;rintro e w4 ⟨rfl,hJ4,hb4,hk4⟩;have B4:=Lib.hid (B3.out.trans hb4);have K4:=Lib.hid (K3.out.trans hk4);replace hJ4:=Lib.hid (show Lib.IsBuilderF 57 5 B b _ w4 from .inr hJ4);clear hb4 hk4)))
      refine ⟨⟨k + 1,q + 1,(by first | rfl | exact congrArg (Value.int .i64) eqq),Lib.hid ⟨by have:=hq.out;omega,hk⟩,Lib.hid (by rw [hnew.out,← byteCells_snoc];exact hJ4.out),B4,K4⟩,?_⟩
      simp only [intOf];have:=hq.out;omega
    · have tk : decide (q < (l.length : Int)) = false:=decide_eq_false (by have:=hq.out;omega)
      have hJ2:=hJ.out
      rw [List.take_of_length_le (by omega)] at hJ2
      replace hJ2:=Lib.hid hJ2
      go_wp2
      go_end0
      exact ⟨rfl,hJ2.out,hB.out,hK.out⟩
def Told (B b : Nat) (bs : List UInt8) (W : World) (e : Ending) (w' : World) : Prop :=
  e = .returned (.tuple #[]) ∧ Lib.IsBuilderF 57 5 B b (Lib.byteCells bs) w' ∧ Below B W w' ∧ ∀ {base : Nat} {ok : Nat → Prop} {v : Value} {xs : List ByteArray},Kd.R Kd.string 9 W base ok v xs → Kd.R Kd.string 9 w' base ok v xs
theorem tell_row {B b base : Nat} {bs : List UInt8} {A : Option Addr} {c : Nat} {l : List ByteArray} {ok : Nat → Prop} {w : World} (hI : Lib.IsBuilderF 57 5 B b (Lib.byteCells bs) w) (hR : Kd.R Kd.string 9 w base ok (.slice A l.length c) l) (hlen : bs.length + (catNL l).length ≤ 70368744177664) (hl : l.length ≤ 70368744177664) :
    Calls Tryz.prog 22 #[.slice A l.length c,.pointer (some ⟨b,0,none⟩)] w (Told B b (bs ++ catNL l) w) :=
  (tell_calls hI hR hlen hl).mono fun _ _ ⟨h1,h2,h3,h4⟩=>⟨h1,h2,h3,fun h=>R_others h hI h4⟩
theorem tell_lit {B b n : Nat} {bs : List UInt8} {s : ByteArray} {w : World} (hI : Lib.IsBuilderF 57 5 B b (Lib.byteCells bs) w) (hn : w.heap.size = n) (hlen : bs.length + s.size + 1 ≤ 70368744177664) :
    Calls Tryz.prog 22 #[.slice (some ⟨n,0,none⟩) 1 1,.pointer (some ⟨b,0,none⟩)] (w.alloc (.cells #[.string s] 9)) (Told B b (bs ++ catNL [s]) w):=by
  subst hn
  have D8:=below_alloc (Below.refl w.heap.size w) (.cells #[.string s] 9)
  have e : (catNL [s]).length = s.size + 1:=by
    have e2 : s.data.toList.length = s.size:=rfl
    simp [catNL,e2]
  exact (tell_calls (l:=[s]) (bld_below hI D8) (lit_one w s) (by omega) (by simp)).mono fun _ _ ⟨h1,h2,h3,h4⟩=>⟨h1,h2,(D8.mono (bld_size hI)).trans h3,fun h=>R_others (Kd.R_below h D8) (bld_below hI D8) h4⟩
end Go.Proofs.YtpfbcepgmigeiaaGreatDoor.Q
end
section
namespace Go.Proofs.YtpfbcepgmigeiaaGreatDoor.Q
open Go.RowKit Go.Shelf Go.Lib Go.Proofs.YtpfbcepgmigeiaaGreatDoorW.PrintWords Go.Proofs.YtpfbcepgmigeiaaGreatDoorW.PrintLast Go.Proofs.YtpfbcepgmigeiaaGreatDoorW.PrintMore
set_option linter.unusedVariables false
set_option linter.unusedSimpArgs false
open Go.Proofs.YtpfbcepgmigeiaaGreatDoorS
theorem nar_size : ∀ (L : List Nat),(L.flatMap (fun r : Nat=>(Utf8.encode (r : Int)).data.toList)).length ≤ 4 * L.length
  | []=>Nat.le_refl _
  | r :: L=>by
    have h1:=nar_size L
    have h2:=encode_size (r : Int)
    have e : ∀ b : ByteArray,b.data.toList.length = b.size:=fun b=>rfl
    rw [List.flatMap_cons,List.length_append,List.length_cons,e]
    omega
theorem nar_bytes {s : ByteArray} {n : Nat} (h : Nar s.data.toList n) : s.size ≤ 4 * n:=by
  obtain ⟨L,e,hl,_⟩:=h
  have h1:=nar_size L
  have h2 : s.data.toList.length = s.size:=rfl
  rw [← e,hl,h2] at h1
  omega
theorem page_sizes {title : ByteArray} {H W : Int} {bl ri be : List Bool} {cells clues : List ByteArray} (hp : pcheck title H W bl ri be cells clues = 0) {width : Int} (hw1 : 10 ≤ width) :
    title.size ≤ 960 ∧ (drawB H W bl ri be cells).length ≤ 49 ∧ (catNL (drawB H W bl ri be cells)).length ≤ 20000 ∧ ∀ down : Bool,(cluesB H W bl ri be clues down width).length ≤ 2000000 ∧ (catNL (cluesB H W bl ri be clues down width)).length ≤ 10000000000:=by
  obtain ⟨hg,-,hok,hcl,hli⟩:=pcheck_right hp
  obtain ⟨hH,hW,hl⟩:=gcheck_ok hg
  have hm:=mul_small hH hW
  have hn : 1 ≤ bl.length ∧ bl.length ≤ 256:=by omega
  have hnum:=slots_num hg hn.2
  have hfac : (slotsOf H W bl ri be).length ≤ 512:=by have:=(slotsOf_facts hg).1;omega
  have ht:=uline_ok (List.all_eq_true.1 hli title (List.mem_append_right _ (List.mem_singleton.2 rfl)))
  have hd:=draw_len (H:=H) (W:=W) (bl:=bl) (ri:=ri) (be:=be) (cells:=cells)
  have hdn:=draw_nar hg hn.2 hok
  have hd2:=catNL_len (n:=260) (drawB H W bl ri be cells) (fun x hx=>by have:=nar_bytes (hdn x hx);omega)
  refine ⟨ht.2,by omega,?_,fun down=>?_⟩
  · have h1 : (drawB H W bl ri be cells).length * (260 + 1) ≤ 49 * 261:=Nat.mul_le_mul_right _ (by omega)
    omega
  · have hgd:=clues_good (down:=down) hw1 hli hnum hcl (slotsOf H W bl ri be).length (Nat.le_refl _)
    have e : cluesB H W bl ri be clues down width = cluesN (slotsOf H W bl ri be) down clues width (slotsOf H W bl ri be).length:=rfl
    rw [e]
    have h1 : (cluesN (slotsOf H W bl ri be) down clues width (slotsOf H W bl ri be).length).length ≤ 2000000:=by have:=hgd.2;omega
    have h2:=catNL_len (n:=4096) (cluesN (slotsOf H W bl ri be) down clues width (slotsOf H W bl ri be).length) (fun x hx=>(hgd.1.1 x hx).2.1)
    have h3 : (cluesN (slotsOf H W bl ri be) down clues width (slotsOf H W bl ri be).length).length * (4096 + 1) ≤ 2000000 * 4097:=Nat.mul_le_mul_right _ h1
    exact ⟨h1,by omega⟩
set_option maxHeartbeats 8000000 in
set_option maxRecDepth 1000000 in
theorem page_bad {title : ByteArray} {H W : Int} {A2 : Option Addr} {c2 : Nat} {bl : List Bool} {A3 : Option Addr} {c3 : Nat} {ri : List Bool} {A4 : Option Addr} {c4 : Nat} {be : List Bool} {A5 : Option Addr} {c5 : Nat} {cells : List ByteArray} {A6 : Option Addr} {c6 : Nat} {clues : List ByteArray} {w : World} (hT : Tabs w) (hP : PuzR A2 c2 bl A3 c3 ri A4 c4 be A5 c5 cells A6 c6 clues w) (hz : PuzS title cells clues) {er : Int} (hp : pcheck title H W bl ri be cells clues = er) (he : er ≠ 0) (width : Int) :
    Calls Tryz.prog 9 #[.agg #[.string title,.int .i64 H,.int .i64 W,.slice A2 bl.length c2,.slice A3 ri.length c3,.slice A4 be.length c4,.slice A5 cells.length c5,.slice A6 clues.length c6],.int .i64 width] w fun e w'=>e = .returned (.tuple #[.string ⟨#[]⟩,.int .i64 er]) ∧ Below w.heap.size w w':=by
  have hx:=box1 w (.cells #[.string title,.int .i64 H,.int .i64 W,.slice A2 bl.length c2,.slice A3 ri.length c3,.slice A4 be.length c4,.slice A5 cells.length c5,.slice A6 clues.length c6] 27)
  have px:=cells8 hx.1
  replace hx:=Lib.hid hx
  replace hp:=Lib.hid hp
  have hu27:=Tryz.underlying27
  have hu24:=Tryz.underlying24
  have te : (er != 0) = true:=bne_iff_ne.2 he
  go_enter Tryz.func9,Tryz.ntmps9
  go_wp2_with (go_at_call 12;go_must (refine (draw_bad (tabs_below hT hx.out.2) (hP.below hx.out.2) hz hp.out he).mono ?_;rintro e w3 ⟨rfl,hb3⟩))
  go_ret2
  exact ⟨rfl,below_step hx.out.2 hb3⟩
set_option maxHeartbeats 8000000 in
set_option maxRecDepth 1000000 in
theorem page_wide {title : ByteArray} {H W : Int} {A2 : Option Addr} {c2 : Nat} {bl : List Bool} {A3 : Option Addr} {c3 : Nat} {ri : List Bool} {A4 : Option Addr} {c4 : Nat} {be : List Bool} {A5 : Option Addr} {c5 : Nat} {cells : List ByteArray} {A6 : Option Addr} {c6 : Nat} {clues : List ByteArray} {w : World} (hT : Tabs w) (hP : PuzR A2 c2 bl A3 c3 ri A4 c4 be A5 c5 cells A6 c6 clues w) (hz : PuzS title cells clues) (hp : pcheck title H W bl ri be cells clues = 0) (width : Int) (hw : width < 10 ∨ 120 < width) :
    Calls Tryz.prog 9 #[.agg #[.string title,.int .i64 H,.int .i64 W,.slice A2 bl.length c2,.slice A3 ri.length c3,.slice A4 be.length c4,.slice A5 cells.length c5,.slice A6 clues.length c6],.int .i64 width] w fun e w'=>e = .returned (.tuple #[.string ⟨#[]⟩,.int .i64 200]) ∧ Below w.heap.size w w':=by
  have hx:=box1 w (.cells #[.string title,.int .i64 H,.int .i64 W,.slice A2 bl.length c2,.slice A3 ri.length c3,.slice A4 be.length c4,.slice A5 cells.length c5,.slice A6 clues.length c6] 27)
  have px:=cells8 hx.1
  replace hx:=Lib.hid hx
  replace hp:=Lib.hid hp
  have hu27:=Tryz.underlying27
  have hu24:=Tryz.underlying24
  have t0 : ((0 : Int) != 0) = false:=rfl
  replace hw:=Lib.hid hw
  go_enter Tryz.func9,Tryz.ntmps9
  go_wp2_with (first
    | (go_at_call 12;go_must (refine (draw_ok (tabs_below hT hx.out.2) (hP.below hx.out.2) hz hp.out).mono ?_;rintro e w3 ⟨vD,rfl,-,hb3⟩;have P3:=Lib.hid (blk_below hx.out.1 hb3);have p3:=cells8 P3.out;have B3:=Lib.hid (below_step hx.out.2 hb3);clear hb3))
    | (go_at_call 6;go_must (refine (clues_wide (tabs_below hT B3.out) (hP.below B3.out) hz hp.out false width hw.out).mono ?_;rintro e w4 ⟨rfl,hb4⟩;have B4:=Lib.hid (below_step B3.out hb4);clear hb4)))
  go_ret2
  exact ⟨rfl,B4.out⟩
set_option maxHeartbeats 16000000 in
set_option maxRecDepth 1000000 in
theorem page_ok {title : ByteArray} {H W : Int} {A2 : Option Addr} {c2 : Nat} {bl : List Bool} {A3 : Option Addr} {c3 : Nat} {ri : List Bool} {A4 : Option Addr} {c4 : Nat} {be : List Bool} {A5 : Option Addr} {c5 : Nat} {cells : List ByteArray} {A6 : Option Addr} {c6 : Nat} {clues : List ByteArray} {w : World} (hT : Tabs w) (hP : PuzR A2 c2 bl A3 c3 ri A4 c4 be A5 c5 cells A6 c6 clues w) (hz : PuzS title cells clues) (hp : pcheck title H W bl ri be cells clues = 0) {width : Int} (hw1 : 10 ≤ width) (hw2 : width ≤ 120) :
    Calls Tryz.prog 9 #[.agg #[.string title,.int .i64 H,.int .i64 W,.slice A2 bl.length c2,.slice A3 ri.length c3,.slice A4 be.length c4,.slice A5 cells.length c5,.slice A6 clues.length c6],.int .i64 width] w fun e w'=>e = .returned (.tuple #[.string (pageB title H W bl ri be cells clues width),.int .i64 0]) ∧ Below w.heap.size w w':=by
  obtain ⟨z1,z2,z3,z4⟩:=page_sizes hp hw1
  obtain ⟨za1,za2⟩:=z4 false
  obtain ⟨zd1,zd2⟩:=z4 true
  clear z4
  have hpB : pageB title H W bl ri be cells clues width = ⟨(catNL (pageL title (drawB H W bl ri be cells) (cluesB H W bl ri be clues false width) (cluesB H W bl ri be clues true width))).toArray⟩:=rfl
  have hdk:=fun (w2 : World) (t2 : Tabs w2) (p2 : PuzR A2 c2 bl A3 c3 ri A4 c4 be A5 c5 cells A6 c6 clues w2)=>draw_ok t2 p2 hz hp
  have hak:=fun (w2 : World) (t2 : Tabs w2) (p2 : PuzR A2 c2 bl A3 c3 ri A4 c4 be A5 c5 cells A6 c6 clues w2)=>clues_ok t2 p2 hz hp false hw1 hw2
  have hnk:=fun (w2 : World) (t2 : Tabs w2) (p2 : PuzR A2 c2 bl A3 c3 ri A4 c4 be A5 c5 cells A6 c6 clues w2)=>clues_ok t2 p2 hz hp true hw1 hw2
  obtain ⟨LD,hLD⟩ : ∃ l,drawB H W bl ri be cells = l:=⟨_,rfl⟩
  obtain ⟨LA,hLA⟩ : ∃ l,cluesB H W bl ri be clues false width = l:=⟨_,rfl⟩
  obtain ⟨LN,hLN⟩ : ∃ l,cluesB H W bl ri be clues true width = l:=⟨_,rfl⟩
  rw [hLD] at z2 z3 hpB hdk
  rw [hLA] at za1 za2 hpB hak
  rw [hLN] at zd1 zd2 hpB hnk
  rw [hpB]
  clear hpB
  have hx:=box1 w (.cells #[.string title,.int .i64 H,.int .i64 W,.slice A2 bl.length c2,.slice A3 ri.length c3,.slice A4 be.length c4,.slice A5 cells.length c5,.slice A6 clues.length c6] 27)
  have px:=cells8 hx.1
  replace hx:=Lib.hid hx
  replace hp:=Lib.hid hp
  replace hdk:=Lib.hid hdk
  replace hak:=Lib.hid hak
  replace hnk:=Lib.hid hnk
  replace hLD:=Lib.hid hLD
  replace hLA:=Lib.hid hLA
  replace hLN:=Lib.hid hLN
  have hu27:=Tryz.underlying27
  have hu24:=Tryz.underlying24
  have t0 : ((0 : Int) != 0) = false:=rfl
  have tok1 : True:=trivial
  have hcT : (catNL [title]).length ≤ 961:=by have:=catNL_len (n:=960) [title] (fun x hx=>by rw [List.mem_singleton.1 hx];exact z1);simpa using this
  have hcA : (catNL [(⟨#[65,99,114,111,115,115]⟩ : ByteArray)]).length ≤ 7:=by decide
  have hcN : (catNL [(⟨#[68,111,119,110]⟩ : ByteArray)]).length ≤ 5:=by decide
  obtain ⟨X,hX⟩ : ∃ X,(if title.size = 0 then [] else [title]) = X:=⟨_,rfl⟩
  obtain ⟨Y,hY⟩ : ∃ Y,(if LA.length = 0 then [] else [acrossB] ++ LA) = Y:=⟨_,rfl⟩
  obtain ⟨Z,hZ⟩ : ∃ Z,(if LN.length = 0 then [] else [downB] ++ LN) = Z:=⟨_,rfl⟩
  have hXYZ : pageL title LD LA LN = X ++ LD ++ Y ++ Z:=by unfold pageL;rw [hX,hY,hZ]
  rw [hXYZ]
  clear hXYZ
  have fT : (title.toList = [] ∧ title.toList.isEmpty = true ∧ Hid (X = [])) ∨ (¬ title.toList = [] ∧ title.toList.isEmpty = false ∧ Hid (X = [title])):=by
    by_cases h : title.size = 0
    · have h1 : title.toList = []:=by rw [Lib.toList_data];exact List.eq_nil_of_length_eq_zero h
      exact .inl ⟨h1,(by rw [h1];rfl),Lib.hid (by rw [← hX,if_pos h])⟩
    · have h1 : title.toList.isEmpty = false:=nonempty_list (fun h2=>h (by rw [h2];rfl))
      exact .inr ⟨(fun h2=>by rw [h2] at h1;cases h1),h1,Lib.hid (by rw [← hX,if_neg h])⟩
  have fA : (decide ((0 : Int) < (LA.length : Int)) = false ∧ ¬ 0 < LA.length ∧ Hid (Y = [])) ∨ (decide ((0 : Int) < (LA.length : Int)) = true ∧ 0 < LA.length ∧ Hid (Y = [(⟨#[65,99,114,111,115,115]⟩ : ByteArray)] ++ LA)):=by
    by_cases h : LA.length = 0
    · exact .inl ⟨decide_eq_false (by omega),by omega,Lib.hid (by rw [← hY,if_pos h])⟩
    · exact .inr ⟨decide_eq_true (by omega),by omega,Lib.hid (by rw [← hY,if_neg h];rfl)⟩
  have fN : (decide ((0 : Int) < (LN.length : Int)) = false ∧ ¬ 0 < LN.length ∧ Hid (Z = [])) ∨ (decide ((0 : Int) < (LN.length : Int)) = true ∧ 0 < LN.length ∧ Hid (Z = [(⟨#[68,111,119,110]⟩ : ByteArray)] ++ LN)):=by
    by_cases h : LN.length = 0
    · exact .inl ⟨decide_eq_false (by omega),by omega,Lib.hid (by rw [← hZ,if_pos h])⟩
    · exact .inr ⟨decide_eq_true (by omega),by omega,Lib.hid (by rw [← hZ,if_neg h];rfl)⟩
  replace hX:=Lib.hid hX
  replace hY:=Lib.hid hY
  replace hZ:=Lib.hid hZ
  rcases fT with ⟨tT,tT2,eX⟩ | ⟨tT,tT2,eX⟩ <;> rcases fA with ⟨tA,tA2,eY⟩ | ⟨tA,tA2,eY⟩ <;> rcases fN with ⟨tN,tN2,eZ⟩ | ⟨tN,tN2,eZ⟩
  all_goals
    go_enter Tryz.func9,Tryz.ntmps9
    go_wp2_with (first
      | (go_at_call 12;go_must (refine (hdk.out _ (tabs_below hT hx.out.2) (hP.below hx.out.2)).mono ?_;rintro e w3 ⟨vD,rfl,RD,hb3⟩;obtain ⟨AD,cD,rfl⟩:=Kd.R_slice RD;replace RD:=Lib.hid RD;have P3:=Lib.hid (blk_below hx.out.1 hb3);have p3:=cells8 P3.out;have B3:=Lib.hid (below_step hx.out.2 hb3);clear hb3))
      | (go_at_call 6;have tq:=tok1;go_must (clear tq tok1;refine (hak.out _ (tabs_below hT B3.out) (hP.below B3.out)).mono ?_;rintro e w4 ⟨vA,rfl,RA,hb4⟩;obtain ⟨AA,cA,rfl⟩:=Kd.R_slice RA;replace RA:=Lib.hid RA;have P4:=Lib.hid (blk_below P3.out hb4);have p4:=cells8 P4.out;replace RD:=Lib.hid (Kd.R_below RD.out hb4);have B4:=Lib.hid (below_step B3.out hb4);clear hb4 p3 P3))
      | (go_at_call 6;go_must (refine (hnk.out _ (tabs_below hT B4.out) (hP.below B4.out)).mono ?_;rintro e w5 ⟨vN,rfl,RN,hb5⟩;obtain ⟨AN,cN,rfl⟩:=Kd.R_slice RN;have D6:=below_alloc (Below.refl w5.heap.size w5) (.cells #[.pointer none,.slice none 0 0] 57);replace RN:=Lib.hid (Kd.R_below RN D6);replace RD:=Lib.hid (Kd.R_below (Kd.R_below RD.out hb5) D6);replace RA:=Lib.hid (Kd.R_below (Kd.R_below RA.out hb5) D6);have P5:=Lib.hid (blk_below (blk_below P4.out hb5) D6);have p5:=cells8 P5.out;have HB:=Lib.hid (below_step (below_step B4.out hb5) D6);have HI:=Lib.hid (show Lib.IsBuilderF 57 5 w5.heap.size w5.heap.size (Lib.byteCells []) (w5.alloc (.cells #[.pointer none,.slice none 0 0] 57)) from Lib.IsBuilderF.of (Lib.fresh_isBuilder 57 5 w5));have hS5:=B4.out.size;have hS6:=hb5.size;clear hb5 p4 P4 B4 D6))
      | (go_at_call 22;go_must ((first | ((with_reducible refine (tell_row HI.out RD.out ?hA ?hB).mono ?_);(case hA=>(simp only [List.length_append,List.length_nil];omega));(case hB=>omega)) | ((with_reducible refine (tell_row HI.out RA.out ?hA ?hB).mono ?_);(case hA=>(simp only [List.length_append,List.length_nil];omega));(case hB=>omega)) | ((with_reducible refine (tell_row HI.out RN.out ?hA ?hB).mono ?_);(case hA=>(simp only [List.length_append,List.length_nil];omega));(case hB=>omega)) | ((with_reducible refine (tell_lit (s:=title) HI.out ?hn ?hA).mono ?_);(case hn=>first | rfl | (simp;done));(case hA=>(simp only [List.length_append,List.length_nil];first | omega | (rw [show title.size = 6 from rfl];omega) | (rw [show title.size = 4 from rfl];omega)))) | ((with_reducible refine (tell_lit (s:=(⟨#[65,99,114,111,115,115]⟩ : ByteArray)) HI.out ?hn ?hA).mono ?_);(case hn=>first | rfl | (simp;done));(case hA=>(simp only [List.length_append,List.length_nil];first | omega | (rw [show (⟨#[65,99,114,111,115,115]⟩ : ByteArray).size = 6 from rfl];omega) | (rw [show (⟨#[65,99,114,111,115,115]⟩ : ByteArray).size = 4 from rfl];omega)))) | ((with_reducible refine (tell_lit (s:=(⟨#[68,111,119,110]⟩ : ByteArray)) HI.out ?hn ?hA).mono ?_);(case hn=>first | rfl | (simp;done));(case hA=>(simp only [List.length_append,List.length_nil];first | omega | (rw [show (⟨#[68,111,119,110]⟩ : ByteArray).size = 6 from rfl];omega) | (rw [show (⟨#[68,111,119,110]⟩ : ByteArray).size = 4 from rfl];omega)))));rintro e v ⟨rfl,hJ,hb,hK⟩;have HBn:=Lib.hid (HB.out.trans (hb.mono (by omega)));have RDn:=Lib.hid (hK RD.out);have RAn:=Lib.hid (hK RA.out);have RNn:=Lib.hid (hK RN.out);clear HI HB RD RA RN;have HI:=Lib.hid hJ;have HB:=HBn;have RD:=RDn;have RA:=RAn;have RN:=RNn;clear HBn RDn RAn RNn hJ hb hK))
      | (go_at_call 25;go_must (refine (Tryz.Builder_String_any_k _ _ _ _ HI.out (bld_size HI.out)).mono ?_;rintro e wz ⟨rfl,-,hbz,-⟩;have HZ:=Lib.hid (HB.out.trans (hbz.mono (by omega)));clear hbz)))
    go_ret2
    refine ⟨?_,HZ.out⟩
    rw [eX.out,eY.out,eZ.out]
    simp only [catNL_append,List.nil_append,List.append_assoc,List.append_nil]
    rfl
end Go.Proofs.YtpfbcepgmigeiaaGreatDoor.Q
end
