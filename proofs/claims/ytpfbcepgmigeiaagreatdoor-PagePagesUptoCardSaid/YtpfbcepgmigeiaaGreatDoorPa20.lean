/- PART 20 OF A PROOF: Lean functions, and that the program computes them; written by hand and by a program. Not trusted: Lean checks it. -/
import Derived.Test.YtpfbcepgmigeiaaGreatDoorPa15
import Derived.Test.YtpfbcepgmigeiaaGreatDoorPa17
import Derived.Test.YtpfbcepgmigeiaaGreatDoorPa19
set_option linter.unusedVariables false
set_option linter.unusedSimpArgs false
namespace Go.Proofs.YtpfbcepgmigeiaaGreatDoor.Q
open Go.RowKit Go.Proofs.YtpfbcepgmigeiaaGreatDoorW.PrintWords Go.Proofs.YtpfbcepgmigeiaaGreatDoorW.PrintLast Go.Proofs.YtpfbcepgmigeiaaGreatDoorW.PrintMore
set_option linter.unusedVariables false
set_option linter.unusedSimpArgs false
open Go.Proofs.YtpfbcepgmigeiaaGreatDoorS
set_option maxHeartbeats 8000000 in
set_option maxRecDepth 1000000 in
theorem draw2_bad {title : ByteArray} {H W : Int} {A2 : Option Addr} {c2 : Nat} {bl : List Bool} {A3 : Option Addr} {c3 : Nat} {ri : List Bool} {A4 : Option Addr} {c4 : Nat} {be : List Bool} {A5 : Option Addr} {c5 : Nat} {cells : List ByteArray} {A6 : Option Addr} {c6 : Nat} {clues : List ByteArray} {w : World} (hP : PuzR A2 c2 bl A3 c3 ri A4 c4 be A5 c5 cells A6 c6 clues w) (hz : PuzS title cells clues) {er : Int} (hp : pcheck title H W bl ri be cells clues = er) (he : er ≠ 0) :
    Calls Tryz.prog 26 #[.agg #[.string title,.int .i64 H,.int .i64 W,.slice A2 bl.length c2,.slice A3 ri.length c3,.slice A4 be.length c4,.slice A5 cells.length c5,.slice A6 clues.length c6]] w fun e w'=>e = .returned (.tuple #[.slice none 0 0,.int .i64 er]) ∧ Below w.heap.size w w':=by
  have hx:=box1 w (.cells #[.string title,.int .i64 H,.int .i64 W,.slice A2 bl.length c2,.slice A3 ri.length c3,.slice A4 be.length c4,.slice A5 cells.length c5,.slice A6 clues.length c6] 27)
  have px:=cells8 hx.1
  replace hx:=Lib.hid hx
  replace hp:=Lib.hid hp
  have hu27:=Tryz.underlying27
  have hu24:=Tryz.underlying24
  have te : (er != 0) = true:=bne_iff_ne.2 he
  go_enter Tryz.func26,Tryz.ntmps26
  go_wp2_with (go_at_call 18;go_must (refine (rebusref21_Check.calls (hP.below hx.out.2) hz).mono ?_;rw [hp.out];rintro e w3 ⟨rfl,hb3⟩))
  go_ret2
  exact ⟨rfl,below_step hx.out.2 hb3⟩
theorem cat_snoc (f : Nat → ByteArray) (c : Nat) : catB f (c + 1) = catB f c ++ f c:=rfl
set_option maxHeartbeats 16000000 in
set_option maxRecDepth 1000000 in
theorem draw2_ok {title : ByteArray} {H W : Int} {A2 : Option Addr} {c2 : Nat} {bl : List Bool} {A3 : Option Addr} {c3 : Nat} {ri : List Bool} {A4 : Option Addr} {c4 : Nat} {be : List Bool} {A5 : Option Addr} {c5 : Nat} {cells : List ByteArray} {A6 : Option Addr} {c6 : Nat} {clues : List ByteArray} {w : World} (hP : PuzR A2 c2 bl A3 c3 ri A4 c4 be A5 c5 cells A6 c6 clues w) (hz : PuzS title cells clues) (hp : pcheck title H W bl ri be cells clues = 0) :
    Calls Tryz.prog 26 #[.agg #[.string title,.int .i64 H,.int .i64 W,.slice A2 bl.length c2,.slice A3 ri.length c3,.slice A4 be.length c4,.slice A5 cells.length c5,.slice A6 clues.length c6]] w (DrawOk (drawB H W bl ri be cells) w):=by
  obtain ⟨hg,hs,hok,-,-⟩:=pcheck_right hp
  obtain ⟨hH,hW,hl⟩:=gcheck_ok hg
  have hm:=mul_small hH hW
  have hn : 1 ≤ bl.length ∧ bl.length ≤ 256:=by omega
  have hfir:=slots_first hg
  have hnum:=slots_num hg hn.2
  have hfac:=(slotsOf_facts hg).1
  have hnf:=fun (i : Int) (h0 : 0 ≤ i) (h1 : i < (cells.length : Int))=>nums_find hg (n:=cells.length) h0 h1
  obtain ⟨L,hL⟩ : ∃ L,slotsOf H W bl ri be = L:=⟨_,rfl⟩
  obtain ⟨nums,hN⟩ : ∃ x,pnums L cells.length = x:=⟨_,rfl⟩
  have hdr : drawB H W bl ri be cells = rowsB W bl ri be nums cells H.toNat ++ [rowB W 0 (fun _=>⟨#[43,45,45,45]⟩) ⟨#[43]⟩]:=by unfold drawB;rw [hL,hN]
  rw [hdr]
  rw [hL] at hfir hnum hfac
  simp only [hL,hN] at hnf
  clear hdr
  have hx:=box1 w (.cells #[.string title,.int .i64 H,.int .i64 W,.slice A2 bl.length c2,.slice A3 ri.length c3,.slice A4 be.length c4,.slice A5 cells.length c5,.slice A6 clues.length c6] 27)
  have px:=cells8 hx.1
  replace hx:=Lib.hid hx
  replace hp:=Lib.hid hp
  replace hok:=Lib.hid hok
  replace hfir:=Lib.hid hfir
  replace hnum:=Lib.hid hnum
  replace hfac:=Lib.hid hfac
  replace hnf:=Lib.hid hnf
  replace hL:=Lib.hid hL
  replace hN:=Lib.hid hN
  replace hm:=Lib.hid hm
  replace hl:=Lib.hid hl
  replace hg:=Lib.hid hg
  replace hs:=Lib.hid hs
  have hu27:=Tryz.underlying27
  have hu24:=Tryz.underlying24
  have hz0:=hz
  replace hz:=Lib.hid hz
  have t0 : ((0 : Int) != 0) = false:=rfl
  go_enter Tryz.func26,Tryz.ntmps26
  go_wp2_with (first
    | (go_at_call 18;go_must (refine (rebusref21_Check.calls (hP.below hx.out.2) hz0).mono ?_;rw [hp.out];rintro e w3 ⟨rfl,hb3⟩;have bP3:=blk_below hx.out.1 hb3;have p3:=cells8 bP3;have hB3:=Lib.hid (below_step hx.out.2 hb3);have q4:=box1 w3 (.cells #[.int .i64 H,.int .i64 W,.slice A2 bl.length c2,.slice A3 ri.length c3,.slice A4 be.length c4] 24);have bP4:=Lib.hid (blk_below bP3 q4.2);obtain ⟨g40,g41,g42,g43,g44⟩:=GridBox.of q4.1;have q40:=Lib.hid q4.1;have hB4:=Lib.hid (below_step hB3.out q4.2);clear q4 hb3 bP3))
    | (go_at_call 19;go_must (refine (rebusref07_List.calls (hP.below hB4.out).gridC).mono ?_;rw [hL.out];rintro e w5 ⟨vL,rfl,hS5,hb5⟩;obtain ⟨AL,cL,rfl⟩:=Kd.S_slice hS5;have CL:=Lib.hid (Kd.S_reads' hS5).2.2;have P5:=Lib.hid (blk_below bP4.out hb5);have G5:=Lib.hid (blk_below q40.out hb5);have B5:=Lib.hid (below_step hB4.out hb5);obtain ⟨g50,g51,g52,g53,g54⟩:=GridBox.of G5.out;clear hb5 hS5)))
  have hP5:=Lib.hid (hP.below B5.out)
  clear hB3 hB4 bP4 q40 g40 g41 g42 g43 g44 p3 px g50 g51 g52 g53 g54
  go_loopw [7,8] (fun v7 v8 wr=>∃ (r : Nat) (q : Int),v8 = .int .i64 q ∧ Hid (q = r ∧ r ≤ H.toNat) ∧ Hid (Kd.R Kd.string 9 wr w5.heap.size (fun _=>True) v7 (rowsB W bl ri be nums cells r)) ∧ Hid (Below w5.heap.size w5 wr)) (fun _ v8 _=>H.toNat - (intOf v8).toNat)
  case atStart=>exact ⟨0,0,rfl,Lib.hid ⟨rfl,Nat.zero_le _⟩,Lib.hid (Kd.R_nil _ _ _ _ _),Lib.hid (Below.refl _ _)⟩
  case round =>
    obtain ⟨r,q,rfl,hq,hR,hB⟩:=hrel
    obtain ⟨AR,nR,cR,rfl⟩:=R_slice3 hR.out
    obtain ⟨g0,g1,g2,g3,g4⟩:=GridBox.of (blk_below G5.out hB.out)
    by_cases hlt : r < H.toNat
    · have tlt : decide (q < H) = true:=decide_eq_true (by have:=hq.out;omega)
      have hqE : q = (r : Int):=hq.out.1
      subst hqE
      have hri : (r : Int) < H:=by omega
      have hr16 : r ≤ 16:=by omega
      obtain ⟨wo,rfl⟩ : ∃ x,x = wr:=⟨_,rfl⟩
      have hrW : 0 ≤ (r : Int) * W ∧ (r : Int) * W ≤ 256 ∧ ((r : Int) + 1) * W = (r : Int) * W + W:=by
        have h1 : (r : Int) * W ≤ 16 * 16:=Int.mul_le_mul (by omega) hW.2 (by omega) (by omega)
        exact ⟨Int.mul_nonneg (by omega) (by omega),by omega,by rw [Int.add_mul,Int.one_mul]⟩
      obtain ⟨p,hpW⟩ : ∃ p,(r : Int) * W = p:=⟨_,rfl⟩
      have ew1 : wrap64 ((r : Int) * W) = p:=by rw [hpW];rw [hpW] at hrW;exact w64 (by omega) (by omega)
      have ew2 : wrap64 (((r : Int) + 1) * W) = p + W:=by rw [hrW.2.2,hpW];rw [hpW] at hrW;exact w64 (by omega) (by omega)
      have ew3 : wrap64 ((r : Int) + 1) = (r : Int) + 1:=w64 (by omega) (by omega)
      obtain ⟨fA,hfA⟩ : ∃ f : Nat → ByteArray,(fun c : Nat=>topB W be r (p + (c : Int))) = f:=⟨_,rfl⟩
      obtain ⟨fB,hfB⟩ : ∃ f : Nat → ByteArray,(fun c : Nat=>fillB W bl ri (p + (c : Int)) (padB (rdOf ByteArray.empty nums (p + (c : Int))))) = f:=⟨_,rfl⟩
      obtain ⟨fC,hfC⟩ : ∃ f : Nat → ByteArray,(fun c : Nat=>fillB W bl ri (p + (c : Int)) (midB (rdOf ByteArray.empty cells (p + (c : Int))))) = f:=⟨_,rfl⟩
      have hno:=nums_ok hnum.out cells.length
      rw [hN.out] at hno
      have sA : ∀ c,(fA c).size ≤ 4194304:=fun c=>by rw [← hfA];exact top_size _
      have sB : ∀ c,(fB c).size ≤ 4194304:=fun c=>by rw [← hfB];exact fill_size _ (by have h1:=pad_size (s:=rdOf ByteArray.empty nums (p + (c : Int)));have h2:=(rd_num hno.1 (p + (c : Int))).1;omega)
      have sC : ∀ c,(fC c).size ≤ 4194304:=fun c=>by rw [← hfC];exact fill_size _ (by have h1:=mid_size (s:=rdOf ByteArray.empty cells (p + (c : Int)));have h2:=rd_small hz.out.s (p + (c : Int));omega)
      have hrows : rowsB W bl ri be nums cells (r + 1) = rowsB W bl ri be nums cells r ++ [catB fA W.toNat ++ ⟨#[43]⟩,catB fB W.toNat ++ ⟨#[124]⟩,catB fC W.toNat ++ ⟨#[124]⟩]:=by
        simp only [rowsB,rowB,hpW]
        rw [hfA,hfB,hfC]
      replace hrW:=Lib.hid hrW
      replace hpW:=Lib.hid hpW
      replace hfA:=Lib.hid hfA
      replace hfB:=Lib.hid hfB
      replace hfC:=Lib.hid hfC
      replace hno:=Lib.hid hno
      replace sA:=Lib.hid sA
      replace sB:=Lib.hid sB
      replace sC:=Lib.hid sC
      replace hrows:=Lib.hid hrows
      go_wp2
      go_hide hQ
      go_loopw [9,10,11,12] (fun v9 v10 v11 v12 wi=>∃ (c : Nat) (q2 : Int) (a b d : ByteArray),v9 = .string a ∧ v10 = .string b ∧ v11 = .string d ∧ v12 = .int .i64 q2 ∧ Hid (q2 = p + (c : Int) ∧ c ≤ W.toNat) ∧ Hid (a = catB fA c ∧ b = catB fB c ∧ d = catB fC c) ∧ Hid (Below wo.heap.size wo wi)) (fun _ _ _ v12 _=>(p + W).toNat - (intOf v12).toNat)
      case atStart=>exact ⟨0,p,⟨#[]⟩,⟨#[]⟩,⟨#[]⟩,rfl,rfl,rfl,rfl,Lib.hid ⟨by omega,Nat.zero_le _⟩,Lib.hid ⟨rfl,rfl,rfl⟩,Lib.hid (Below.refl _ _)⟩
      case round =>
        obtain ⟨c,q2,a,b,d,rfl,rfl,rfl,rfl,hc,hcat,hBi⟩:=hrel
        have BX:=hB.out.trans (hBi.out.mono hB.out.size)
        clear g0 g1 g2 g3 g4
        obtain ⟨g0,g1,g2,g3,g4⟩:=GridBox.of (blk_below G5.out BX)
        have za : a.size ≤ 67108864:=by rw [hcat.out.1];have h1:=catB_size c sA.out;have h2 : c * 4194304 ≤ 16 * 4194304:=Nat.mul_le_mul_right _ (by have:=hc.out;omega);omega
        have zb : b.size ≤ 67108864:=by rw [hcat.out.2.1];have h1:=catB_size c sB.out;have h2 : c * 4194304 ≤ 16 * 4194304:=Nat.mul_le_mul_right _ (by have:=hc.out;omega);omega
        have zd : d.size ≤ 67108864:=by rw [hcat.out.2.2];have h1:=catB_size c sC.out;have h2 : c * 4194304 ≤ 16 * 4194304:=Nat.mul_le_mul_right _ (by have:=hc.out;omega);omega
        by_cases hcw : c < W.toNat
        · have ix:=pg_idx hri hW.1 (c:=c) (by omega)
          rw [hpW.out,← hc.out.1] at ix
          obtain ⟨i0,i1,iW⟩:=ix
          rw [← hl.out.1] at i1
          have tcw : decide (q2 < p + W) = true:=decide_eq_true (by have:=hc.out;omega)
          have hq256 : q2 < 256:=by omega
          have ewi : wrap64 (q2 + 1) = q2 + 1:=w64 (by omega) (by omega)
          have hfAc : fA c = topB W be r q2:=by rw [← hfA.out,hc.out.1]
          have hfBc : fB c = sideB W ri q2 ++ (if rdOf false bl q2 = true then (⟨#[35,35,35]⟩ : ByteArray) else padB (numB L q2)):=by
            rw [← hfB.out,hc.out.1,← hnf.out (p + (c : Int)) (by have:=hc.out;omega) (by rw [hs.out];have:=hc.out;omega)];rfl
          have hfCc : fC c = sideB W ri q2 ++ (if rdOf false bl q2 = true then (⟨#[35,35,35]⟩ : ByteArray) else midB (rdOf ByteArray.empty cells q2)):=by rw [← hfC.out,hc.out.1];rfl
          have hV1 : (sideB W ri q2).size = 1:=by unfold sideB;split <;> rfl
          have hsd : ∀ w1,Below w5.heap.size w5 w1 → Calls Tryz.prog 59 #[.agg #[.int .i64 H,.int .i64 W,.slice A2 bl.length c2,.slice A3 ri.length c3,.slice A4 be.length c4],.int .i64 q2] w1 fun e w'=>e = .returned (.string (sideB W ri q2)) ∧ Below w1.heap.size w1 w':=fun w1 h1=>side2_calls (hP5.out.below h1).gridC hg.out i0 i1
          obtain ⟨V,hV⟩ : ∃ V,sideB W ri q2 = V:=⟨_,rfl⟩
          rw [hV] at hfBc hfCc hV1
          simp only [hV] at hsd
          have k3 : (⟨#[35,35,35]⟩ : ByteArray).size = 3:=rfl
          have k4 : (⟨#[43,61,61,61]⟩ : ByteArray).size = 4:=rfl
          have k5 : (⟨#[43,45,45,45]⟩ : ByteArray).size = 4:=rfl
          have u1 : ¬ (9223372036854775807 : Int) < (a.size : Int) + ((⟨#[43,61,61,61]⟩ : ByteArray).size : Int):=by omega
          have u2 : ¬ (9223372036854775807 : Int) < (a.size : Int) + ((⟨#[43,45,45,45]⟩ : ByteArray).size : Int):=by omega
          have u3 : ¬ (9223372036854775807 : Int) < (b.size : Int) + (V.size : Int):=by omega
          have u4 : ¬ (9223372036854775807 : Int) < (d.size : Int) + (V.size : Int):=by omega
          have u5 : ¬ (9223372036854775807 : Int) < (b.size : Int) + (V.size : Int) + ((⟨#[35,35,35]⟩ : ByteArray).size : Int):=by omega
          have u6 : ¬ (9223372036854775807 : Int) < (d.size : Int) + (V.size : Int) + ((⟨#[35,35,35]⟩ : ByteArray).size : Int):=by omega
          obtain ⟨adb,eAb,zbl⟩:=Kd.at_bool (hP5.out.below BX).r2 q2 i0 i1
          replace hV:=Lib.hid hV
          replace hsd:=Lib.hid hsd
          replace iW:=Lib.hid iW
          replace k3:=Lib.hid k3
          replace k4:=Lib.hid k4
          replace k5:=Lib.hid k5
          obtain ⟨bb,hbb⟩ : ∃ x,rdOf false bl q2 = x:=⟨_,rfl⟩
          rw [hbb] at hfBc hfCc zbl
          clear hbb
          have tok1 : True:=trivial
          have tok2 : True:=trivial
          by_cases hp0 : 0 < r
          · have hq0 : (0 : Int) < (r : Int):=by omega
            have iW1:=iW.out hp0
            have ewW : wrap64 (q2 - W) = q2 - W:=w64 (by omega) (by omega)
            have hqe : q2 - W < (be.length : Int):=by have:=hl.out;omega
            obtain ⟨ade,eAe,zbe⟩:=Kd.at_bool (hP5.out.below BX).r4 (q2 - W) (by omega) hqe
            obtain ⟨eb,heb⟩ : ∃ x,rdOf false be (q2 - W) = x:=⟨_,rfl⟩
            have hfA2 : fA c = if eb = true then ⟨#[43,61,61,61]⟩ else ⟨#[43,45,45,45]⟩:=by
              rw [hfAc]
              show (if 0 < r ∧ rdOf false be (q2 - W) = true then _ else _) = _
              rw [heb]
              by_cases h : eb = true
              · rw [if_pos ⟨hp0,h⟩,if_pos h]
              · rw [if_neg (fun h2=>h h2.2),if_neg h]
            rw [heb] at zbe
            clear heb hfAc
            cases eAe
            cases eb with
            | true =>
              rw [if_pos rfl] at hfA2
              have hfAc:=Lib.hid hfA2
              clear hfA2
              have BXa:=BX
              have BIa:=hBi.out
              cases bb with
              | true =>
                rw [if_pos rfl] at hfBc hfCc
                replace hfBc:=Lib.hid hfBc
                replace hfCc:=Lib.hid hfCc
                cases eAb
                go_wp2_with (first
                  | (go_at_call 59;have tq:=tok1;go_must (clear tq tok1;refine (hsd.out _ BXa).mono ?_;rintro e wb ⟨rfl,hb⟩;have BXb:=BXa.trans (hb.mono BXa.size);have BIb:=BIa.trans (hb.mono BIa.size);clear hb;obtain ⟨g0,g1,g2,g3,g4⟩:=GridBox.of (blk_below G5.out BXb)))
                  | (go_at_call 59;have tq:=tok2;go_must (clear tq tok2;refine (hsd.out _ BXb).mono ?_;rintro e wc ⟨rfl,hb⟩;have BXc:=BXb.trans (hb.mono BXb.size);have BIc:=BIb.trans (hb.mono BIb.size);clear hb;obtain ⟨g0,g1,g2,g3,g4⟩:=GridBox.of (blk_below G5.out BXc))))
                refine ⟨⟨c + 1,q2 + 1,a ++ ⟨#[43,61,61,61]⟩,b ++ V ++ (⟨#[35,35,35]⟩ : ByteArray),d ++ V ++ (⟨#[35,35,35]⟩ : ByteArray),rfl,rfl,rfl,rfl,Lib.hid ⟨by have:=hc.out;omega,hcw⟩,Lib.hid ⟨by rw [cat_snoc,← hcat.out.1,hfAc.out],by rw [cat_snoc,← hcat.out.2.1,hfBc.out,ByteArray.append_assoc],by rw [cat_snoc,← hcat.out.2.2,hfCc.out,ByteArray.append_assoc]⟩,Lib.hid BIc⟩,?_⟩
                simp only [intOf];have:=hc.out;omega
              | false =>
                rw [if_neg (by decide)] at hfBc hfCc
                cases eAb
                have hqc : q2 < (cells.length : Int):=by rw [hs.out];exact i1
                obtain ⟨adc,eAc,zc⟩:=Kd.at_string (hP5.out.below BX).r5 q2 i0 hqc
                cases eAc
                have zc5 : ∀ w1,Below w5.heap.size w5 w1 → w1.cell? (adc.add q2.toNat) = some (.string (rdOf ByteArray.empty cells q2)):=fun w1 h1=>by
                  obtain ⟨ad1,e1,z1⟩:=Kd.at_string (hP5.out.below h1).r5 q2 i0 hqc
                  cases e1
                  exact z1
                obtain ⟨nx,hk3,hkn⟩:=rd_cell hok.out q2
                have hxs:=rd_small hz.out.s q2
                obtain ⟨x,hx⟩ : ∃ x,rdOf ByteArray.empty cells q2 = x:=⟨_,rfl⟩
                simp only [hx] at zc5
                rw [hx] at zc hkn hxs hfCc
                replace zc5:=zc5
                clear hx
                have hNs : (padB (numB L q2)).size ≤ 6:=by rw [← hnf.out q2 i0 hqc];have h1:=pad_size (s:=rdOf ByteArray.empty nums q2);have h2:=(rd_num hno.out.1 q2).1;omega
                have hMs : (midB x).size ≤ 1048580:=by have h1:=mid_size (s:=x);omega
                obtain ⟨N,hNq⟩ : ∃ N,padB (numB L q2) = N:=⟨_,rfl⟩
                obtain ⟨M,hM⟩ : ∃ M,midB x = M:=⟨_,rfl⟩
                rw [hNq] at hfBc hNs
                rw [hM] at hfCc hMs
                replace hfBc:=Lib.hid hfBc
                replace hfCc:=Lib.hid hfCc
                replace hNq:=Lib.hid hNq
                replace hM:=Lib.hid hM
                replace hkn:=Lib.hid hkn
                have u7 : ¬ (9223372036854775807 : Int) < (b.size : Int) + (V.size : Int) + (N.size : Int):=by omega
                have hslf : ∀ x ∈ L,1 ≤ x.f2.length:=fun x hx=>(hfir.out x hx).1
                have hLl : L.length ≤ 512:=by have:=hfac.out;omega
                replace hslf:=Lib.hid hslf
                go_wp2_with (first
                  | (go_at_call 59;have tq:=tok1;go_must (clear tq tok1;refine (hsd.out _ BXa).mono ?_;rintro e wb ⟨rfl,hb⟩;have BXb:=BXa.trans (hb.mono BXa.size);have BIb:=BIa.trans (hb.mono BIa.size);clear hb;obtain ⟨g0,g1,g2,g3,g4⟩:=GridBox.of (blk_below G5.out BXb)))
                  | (go_at_call 60;go_must (refine (number2_calls (Kd.C_below CL.out BXb) hLl hslf.out hnum.out).mono ?_;rw [hNq.out];rintro e wc ⟨rfl,hb⟩;have BXc:=BXb.trans (hb.mono BXb.size);have BIc:=BIb.trans (hb.mono BIb.size);clear hb;obtain ⟨g0,g1,g2,g3,g4⟩:=GridBox.of (blk_below G5.out BXc))))
                have BXd:=BXc.trans ((below_drew (Below.refl wc.heap.size wc)).mono BXc.size)
                have BId:=BIc.trans ((below_drew (Below.refl wc.heap.size wc)).mono BIc.size)
                subst hQ
                refine start_ (n:=13) (S:=fun w'=>(w'.cell? ⟨w3.heap.size,0,none⟩ = some (.int .i64 H) ∧ w'.cell? ⟨w3.heap.size,1,none⟩ = some (.int .i64 W) ∧ w'.cell? ⟨w3.heap.size,2,none⟩ = some (.slice (some adb) bl.length c2) ∧ w'.cell? ⟨w3.heap.size,3,none⟩ = some (.slice A3 ri.length c3) ∧ w'.cell? ⟨w3.heap.size,4,none⟩ = some (.slice (some ade) be.length c4)) ∧ w'.cell? ⟨w.heap.size,6,none⟩ = some (.slice (some adc) cells.length c5) ∧ w'.cell? (adc.add q2.toNat) = some (.string x)) (ds:=[]) #[false,false,false,false,false,false,false,false,false,false,false,false,false] (by kernel_rfl) rfl rfl (⟨GridBox.of (blk_below G5.out BXd),(blk_cell (blk_below P5.out BXd) 6).trans rfl,zc5 _ BXd⟩) (fun hHeld=>?_)
                generalize wc.drew = wd at BXd BId hHeld ⊢
                refine pure_ (i:=0) (N:=some 85) (v:=?_) (a':=?_) #[true,false,false,false,false,false,false,false,false,false,false,false,false] rfl rfl (by kernel_rfl) (fun _ _ _ h=>h) (Or.inl ⟨by rfl,?_⟩) ?_ ?_
                rotate_left
                · intro w';go_simp;try with_reducible rfl
                rotate_left
                · simp only [Act.put,List.setIfInBounds_toArray,List.set_cons_zero,List.set_cons_succ,i64_w,i32_w];rfl
                refine pure_ (i:=2) (N:=some 87) (v:=?_) (a':=?_) #[true,false,true,false,false,false,false,false,false,false,false,false,false] rfl rfl (by kernel_rfl) (fun _ _ _ h=>h) (Or.inl ⟨by rfl,?_⟩) ?_ ?_
                rotate_left
                · intro w';go_simp;try with_reducible rfl
                rotate_left
                · simp only [Act.put,List.setIfInBounds_toArray,List.set_cons_zero,List.set_cons_succ,i64_w,i32_w];rfl
                refine pure_ (i:=5) (N:=some 90) (v:=?_) (a':=?_) #[true,false,true,false,false,true,false,false,false,false,false,false,false] rfl rfl (by kernel_rfl) (fun _ _ _ h=>h) (Or.inl ⟨by rfl,?_⟩) ?_ ?_
                rotate_left
                · intro w';go_simp;try with_reducible rfl
                rotate_left
                · simp only [Act.put,List.setIfInBounds_toArray,List.set_cons_zero,List.set_cons_succ,i64_w,i32_w];rfl
                refine pure_ (i:=7) (N:=some 92) (v:=?_) (a':=?_) #[true,false,true,false,false,true,false,true,false,false,false,false,false] rfl rfl (by kernel_rfl) (fun _ _ _ h=>h) (Or.inl ⟨by rfl,?_⟩) ?_ ?_
                rotate_left
                · intro w';go_simp;try with_reducible rfl
                rotate_left
                · simp only [Act.put,List.setIfInBounds_toArray,List.set_cons_zero,List.set_cons_succ,i64_w,i32_w];rfl
                refine take_ (i:=1) (N:=some 86) (v:=?_) (a':=?_) #[true,true,true,false,false,true,false,true,false,false,false,false,false] rfl rfl (by kernel_rfl) (fun _ _ _ h=>h) (Or.inl ⟨by rfl,?_⟩) hHeld ?_ ?_
                rotate_left
                · rintro w' ⟨⟨s0,s1,s2,s3,s4⟩,s5,s6⟩;go_simp;try with_reducible rfl
                rotate_left
                · simp only [Act.put,List.setIfInBounds_toArray,List.set_cons_zero,List.set_cons_succ,i64_w,i32_w];rfl
                refine take_ (i:=6) (N:=some 91) (v:=?_) (a':=?_) #[true,true,true,false,false,true,true,true,false,false,false,false,false] rfl rfl (by kernel_rfl) (fun _ _ _ h=>h) (Or.inl ⟨by rfl,?_⟩) hHeld ?_ ?_
                rotate_left
                · rintro w' ⟨⟨s0,s1,s2,s3,s4⟩,s5,s6⟩;go_simp;try with_reducible rfl
                rotate_left
                · simp only [Act.put,List.setIfInBounds_toArray,List.set_cons_zero,List.set_cons_succ,i64_w,i32_w];rfl
                refine pure_ (i:=8) (N:=some 93) (v:=?_) (a':=?_) #[true,true,true,false,false,true,true,true,true,false,false,false,false] rfl rfl (by kernel_rfl) (fun _ _ _ h=>h) (Or.inl ⟨by rfl,?_⟩) ?_ ?_
                rotate_left
                · intro w';go_simp;try with_reducible rfl
                rotate_left
                · simp only [Act.put,List.setIfInBounds_toArray,List.set_cons_zero,List.set_cons_succ,i64_w,i32_w];rfl
                refine take_ (i:=9) (N:=some 94) (v:=?_) (a':=?_) #[true,true,true,false,false,true,true,true,true,true,false,false,false] rfl rfl (by kernel_rfl) (fun _ _ _ h=>h) (Or.inl ⟨by rfl,?_⟩) hHeld ?_ ?_
                rotate_left
                · rintro w' ⟨⟨s0,s1,s2,s3,s4⟩,s5,s6⟩;go_simp;try with_reducible rfl
                rotate_left
                · simp only [Act.put,List.setIfInBounds_toArray,List.set_cons_zero,List.set_cons_succ,i64_w,i32_w];rfl
                refine one_ (i:=3) (N:=some 88) #[true,true,true,true,false,true,true,true,true,true,false,false,false] rfl rfl (by kernel_rfl) (by decide) (fun K hK=>?_)
                refine goes_ Tryz.func59 (by kernel_rfl) rfl #[.agg #[.int .i64 H,.int .i64 W,.slice (some adb) bl.length c2,.slice A3 ri.length c3,.slice (some ade) be.length c4],.int .i64 q2] (by rfl) rfl rfl (by first | (go_simp;done) | (go_simp;rfl)) ?_
                refine (hsd.out _ BXd).mono ?_
                rintro e we ⟨rfl,hb⟩
                refine ⟨_,rfl,?_⟩
                have BXe:=BXd.trans (hb.mono BXd.size)
                have BIe:=BId.trans (hb.mono BId.size)
                clear hb hHeld
                refine hK.out _ _ (⟨GridBox.of (blk_below G5.out BXe),(blk_cell (blk_below P5.out BXe) 6).trans rfl,zc5 _ BXe⟩) (fun hHeld=>?_)
                clear hK K
                refine norm_ (a':=?_) ?_ ?_
                rotate_left
                · show Act.put _ (some 88) _ = _
                  simp only [Act.put,List.setIfInBounds_toArray,List.set_cons_zero,List.set_cons_succ,i64_w,i32_w];rfl
                refine pure_ (i:=4) (N:=some 89) (v:=?_) (a':=?_) #[true,true,true,true,true,true,true,true,true,true,false,false,false] rfl rfl (by kernel_rfl) (fun _ _ _ h=>h) (Or.inl ⟨by rfl,?_⟩) ?_ ?_
                rotate_left
                · intro w';go_simp;rw [if_neg (show ¬ 9223372036854775807 < d.size + 1 by omega)]
                rotate_left
                · simp only [Act.put,List.setIfInBounds_toArray,List.set_cons_zero,List.set_cons_succ,i64_w,i32_w];rfl
                refine one_ (i:=10) (N:=some 95) #[true,true,true,true,true,true,true,true,true,true,true,false,false] rfl rfl (by kernel_rfl) (by decide) (fun K hK=>?_)
                refine goes_ Tryz.func61 (by kernel_rfl) rfl #[.string x] (by rfl) rfl rfl (by first | (go_simp;done) | (go_simp;rfl)) ?_
                refine (middle2_calls hxs hkn.out hk3 _).mono ?_
                rw [hM.out]
                rintro e wf ⟨rfl,hb⟩
                refine ⟨_,rfl,?_⟩
                have BXf:=BXe.trans (hb.mono BXe.size)
                have BIf:=BIe.trans (hb.mono BIe.size)
                clear hb hHeld
                refine hK.out _ _ (⟨GridBox.of (blk_below G5.out BXf),(blk_cell (blk_below P5.out BXf) 6).trans rfl,zc5 _ BXf⟩) (fun hHeld=>?_)
                clear hK K
                refine norm_ (a':=?_) ?_ ?_
                rotate_left
                · show Act.put _ (some 95) _ = _
                  simp only [Act.put,List.setIfInBounds_toArray,List.set_cons_zero,List.set_cons_succ,i64_w,i32_w];rfl
                refine pure_ (i:=11) (N:=some 96) (v:=?_) (a':=?_) #[true,true,true,true,true,true,true,true,true,true,true,true,false] rfl rfl (by kernel_rfl) (fun _ _ _ h=>h) (Or.inl ⟨by rfl,?_⟩) ?_ ?_
                rotate_left
                · intro w';go_simp;rw [if_neg (show ¬ 9223372036854775807 < d.size + 1 + M.size by omega)]
                rotate_left
                · simp only [Act.put,List.setIfInBounds_toArray,List.set_cons_zero,List.set_cons_succ,i64_w,i32_w];rfl
                refine pure_ (i:=12) (N:=some 11) (v:=?_) (a':=?_) #[true,true,true,true,true,true,true,true,true,true,true,true,true] rfl rfl (by kernel_rfl) (fun _ _ _ h=>h) (Or.inl ⟨by rfl,?_⟩) ?_ ?_
                rotate_left
                · intro w';go_simp;try with_reducible rfl
                rotate_left
                · simp only [Act.put,List.setIfInBounds_toArray,List.set_cons_zero,List.set_cons_succ,i64_w,i32_w];rfl
                refine done_ (by kernel_rfl) ?_
                go_wp2
                refine ⟨⟨c + 1,q2 + 1,a ++ ⟨#[43,61,61,61]⟩,b ++ V ++ N,d ++ V ++ M,rfl,rfl,rfl,rfl,Lib.hid ⟨by have:=hc.out;omega,hcw⟩,Lib.hid ⟨by rw [cat_snoc,← hcat.out.1,hfAc.out],by rw [cat_snoc,← hcat.out.2.1,hfBc.out,ByteArray.append_assoc],by rw [cat_snoc,← hcat.out.2.2,hfCc.out,ByteArray.append_assoc]⟩,Lib.hid BIf⟩,?_⟩
                simp only [intOf];have:=hc.out;omega
            | false =>
              rw [if_neg (by decide)] at hfA2
              have hfAc:=Lib.hid hfA2
              clear hfA2
              have BXa:=BX
              have BIa:=hBi.out
              cases bb with
              | true =>
                rw [if_pos rfl] at hfBc hfCc
                replace hfBc:=Lib.hid hfBc
                replace hfCc:=Lib.hid hfCc
                cases eAb
                go_wp2_with (first
                  | (go_at_call 59;have tq:=tok1;go_must (clear tq tok1;refine (hsd.out _ BXa).mono ?_;rintro e wb ⟨rfl,hb⟩;have BXb:=BXa.trans (hb.mono BXa.size);have BIb:=BIa.trans (hb.mono BIa.size);clear hb;obtain ⟨g0,g1,g2,g3,g4⟩:=GridBox.of (blk_below G5.out BXb)))
                  | (go_at_call 59;have tq:=tok2;go_must (clear tq tok2;refine (hsd.out _ BXb).mono ?_;rintro e wc ⟨rfl,hb⟩;have BXc:=BXb.trans (hb.mono BXb.size);have BIc:=BIb.trans (hb.mono BIb.size);clear hb;obtain ⟨g0,g1,g2,g3,g4⟩:=GridBox.of (blk_below G5.out BXc))))
                refine ⟨⟨c + 1,q2 + 1,a ++ ⟨#[43,45,45,45]⟩,b ++ V ++ (⟨#[35,35,35]⟩ : ByteArray),d ++ V ++ (⟨#[35,35,35]⟩ : ByteArray),rfl,rfl,rfl,rfl,Lib.hid ⟨by have:=hc.out;omega,hcw⟩,Lib.hid ⟨by rw [cat_snoc,← hcat.out.1,hfAc.out],by rw [cat_snoc,← hcat.out.2.1,hfBc.out,ByteArray.append_assoc],by rw [cat_snoc,← hcat.out.2.2,hfCc.out,ByteArray.append_assoc]⟩,Lib.hid BIc⟩,?_⟩
                simp only [intOf];have:=hc.out;omega
              | false =>
                rw [if_neg (by decide)] at hfBc hfCc
                cases eAb
                have hqc : q2 < (cells.length : Int):=by rw [hs.out];exact i1
                obtain ⟨adc,eAc,zc⟩:=Kd.at_string (hP5.out.below BX).r5 q2 i0 hqc
                cases eAc
                have zc5 : ∀ w1,Below w5.heap.size w5 w1 → w1.cell? (adc.add q2.toNat) = some (.string (rdOf ByteArray.empty cells q2)):=fun w1 h1=>by
                  obtain ⟨ad1,e1,z1⟩:=Kd.at_string (hP5.out.below h1).r5 q2 i0 hqc
                  cases e1
                  exact z1
                obtain ⟨nx,hk3,hkn⟩:=rd_cell hok.out q2
                have hxs:=rd_small hz.out.s q2
                obtain ⟨x,hx⟩ : ∃ x,rdOf ByteArray.empty cells q2 = x:=⟨_,rfl⟩
                simp only [hx] at zc5
                rw [hx] at zc hkn hxs hfCc
                replace zc5:=zc5
                clear hx
                have hNs : (padB (numB L q2)).size ≤ 6:=by rw [← hnf.out q2 i0 hqc];have h1:=pad_size (s:=rdOf ByteArray.empty nums q2);have h2:=(rd_num hno.out.1 q2).1;omega
                have hMs : (midB x).size ≤ 1048580:=by have h1:=mid_size (s:=x);omega
                obtain ⟨N,hNq⟩ : ∃ N,padB (numB L q2) = N:=⟨_,rfl⟩
                obtain ⟨M,hM⟩ : ∃ M,midB x = M:=⟨_,rfl⟩
                rw [hNq] at hfBc hNs
                rw [hM] at hfCc hMs
                replace hfBc:=Lib.hid hfBc
                replace hfCc:=Lib.hid hfCc
                replace hNq:=Lib.hid hNq
                replace hM:=Lib.hid hM
                replace hkn:=Lib.hid hkn
                have u7 : ¬ (9223372036854775807 : Int) < (b.size : Int) + (V.size : Int) + (N.size : Int):=by omega
                have hslf : ∀ x ∈ L,1 ≤ x.f2.length:=fun x hx=>(hfir.out x hx).1
                have hLl : L.length ≤ 512:=by have:=hfac.out;omega
                replace hslf:=Lib.hid hslf
                go_wp2_with (first
                  | (go_at_call 59;have tq:=tok1;go_must (clear tq tok1;refine (hsd.out _ BXa).mono ?_;rintro e wb ⟨rfl,hb⟩;have BXb:=BXa.trans (hb.mono BXa.size);have BIb:=BIa.trans (hb.mono BIa.size);clear hb;obtain ⟨g0,g1,g2,g3,g4⟩:=GridBox.of (blk_below G5.out BXb)))
                  | (go_at_call 60;go_must (refine (number2_calls (Kd.C_below CL.out BXb) hLl hslf.out hnum.out).mono ?_;rw [hNq.out];rintro e wc ⟨rfl,hb⟩;have BXc:=BXb.trans (hb.mono BXb.size);have BIc:=BIb.trans (hb.mono BIb.size);clear hb;obtain ⟨g0,g1,g2,g3,g4⟩:=GridBox.of (blk_below G5.out BXc))))
                have BXd:=BXc.trans ((below_drew (Below.refl wc.heap.size wc)).mono BXc.size)
                have BId:=BIc.trans ((below_drew (Below.refl wc.heap.size wc)).mono BIc.size)
                subst hQ
                refine start_ (n:=13) (S:=fun w'=>(w'.cell? ⟨w3.heap.size,0,none⟩ = some (.int .i64 H) ∧ w'.cell? ⟨w3.heap.size,1,none⟩ = some (.int .i64 W) ∧ w'.cell? ⟨w3.heap.size,2,none⟩ = some (.slice (some adb) bl.length c2) ∧ w'.cell? ⟨w3.heap.size,3,none⟩ = some (.slice A3 ri.length c3) ∧ w'.cell? ⟨w3.heap.size,4,none⟩ = some (.slice (some ade) be.length c4)) ∧ w'.cell? ⟨w.heap.size,6,none⟩ = some (.slice (some adc) cells.length c5) ∧ w'.cell? (adc.add q2.toNat) = some (.string x)) (ds:=[]) #[false,false,false,false,false,false,false,false,false,false,false,false,false] (by kernel_rfl) rfl rfl (⟨GridBox.of (blk_below G5.out BXd),(blk_cell (blk_below P5.out BXd) 6).trans rfl,zc5 _ BXd⟩) (fun hHeld=>?_)
                generalize wc.drew = wd at BXd BId hHeld ⊢
                refine pure_ (i:=0) (N:=some 85) (v:=?_) (a':=?_) #[true,false,false,false,false,false,false,false,false,false,false,false,false] rfl rfl (by kernel_rfl) (fun _ _ _ h=>h) (Or.inl ⟨by rfl,?_⟩) ?_ ?_
                rotate_left
                · intro w';go_simp;try with_reducible rfl
                rotate_left
                · simp only [Act.put,List.setIfInBounds_toArray,List.set_cons_zero,List.set_cons_succ,i64_w,i32_w];rfl
                refine pure_ (i:=2) (N:=some 87) (v:=?_) (a':=?_) #[true,false,true,false,false,false,false,false,false,false,false,false,false] rfl rfl (by kernel_rfl) (fun _ _ _ h=>h) (Or.inl ⟨by rfl,?_⟩) ?_ ?_
                rotate_left
                · intro w';go_simp;try with_reducible rfl
                rotate_left
                · simp only [Act.put,List.setIfInBounds_toArray,List.set_cons_zero,List.set_cons_succ,i64_w,i32_w];rfl
                refine pure_ (i:=5) (N:=some 90) (v:=?_) (a':=?_) #[true,false,true,false,false,true,false,false,false,false,false,false,false] rfl rfl (by kernel_rfl) (fun _ _ _ h=>h) (Or.inl ⟨by rfl,?_⟩) ?_ ?_
                rotate_left
                · intro w';go_simp;try with_reducible rfl
                rotate_left
                · simp only [Act.put,List.setIfInBounds_toArray,List.set_cons_zero,List.set_cons_succ,i64_w,i32_w];rfl
                refine pure_ (i:=7) (N:=some 92) (v:=?_) (a':=?_) #[true,false,true,false,false,true,false,true,false,false,false,false,false] rfl rfl (by kernel_rfl) (fun _ _ _ h=>h) (Or.inl ⟨by rfl,?_⟩) ?_ ?_
                rotate_left
                · intro w';go_simp;try with_reducible rfl
                rotate_left
                · simp only [Act.put,List.setIfInBounds_toArray,List.set_cons_zero,List.set_cons_succ,i64_w,i32_w];rfl
                refine take_ (i:=1) (N:=some 86) (v:=?_) (a':=?_) #[true,true,true,false,false,true,false,true,false,false,false,false,false] rfl rfl (by kernel_rfl) (fun _ _ _ h=>h) (Or.inl ⟨by rfl,?_⟩) hHeld ?_ ?_
                rotate_left
                · rintro w' ⟨⟨s0,s1,s2,s3,s4⟩,s5,s6⟩;go_simp;try with_reducible rfl
                rotate_left
                · simp only [Act.put,List.setIfInBounds_toArray,List.set_cons_zero,List.set_cons_succ,i64_w,i32_w];rfl
                refine take_ (i:=6) (N:=some 91) (v:=?_) (a':=?_) #[true,true,true,false,false,true,true,true,false,false,false,false,false] rfl rfl (by kernel_rfl) (fun _ _ _ h=>h) (Or.inl ⟨by rfl,?_⟩) hHeld ?_ ?_
                rotate_left
                · rintro w' ⟨⟨s0,s1,s2,s3,s4⟩,s5,s6⟩;go_simp;try with_reducible rfl
                rotate_left
                · simp only [Act.put,List.setIfInBounds_toArray,List.set_cons_zero,List.set_cons_succ,i64_w,i32_w];rfl
                refine pure_ (i:=8) (N:=some 93) (v:=?_) (a':=?_) #[true,true,true,false,false,true,true,true,true,false,false,false,false] rfl rfl (by kernel_rfl) (fun _ _ _ h=>h) (Or.inl ⟨by rfl,?_⟩) ?_ ?_
                rotate_left
                · intro w';go_simp;try with_reducible rfl
                rotate_left
                · simp only [Act.put,List.setIfInBounds_toArray,List.set_cons_zero,List.set_cons_succ,i64_w,i32_w];rfl
                refine take_ (i:=9) (N:=some 94) (v:=?_) (a':=?_) #[true,true,true,false,false,true,true,true,true,true,false,false,false] rfl rfl (by kernel_rfl) (fun _ _ _ h=>h) (Or.inl ⟨by rfl,?_⟩) hHeld ?_ ?_
                rotate_left
                · rintro w' ⟨⟨s0,s1,s2,s3,s4⟩,s5,s6⟩;go_simp;try with_reducible rfl
                rotate_left
                · simp only [Act.put,List.setIfInBounds_toArray,List.set_cons_zero,List.set_cons_succ,i64_w,i32_w];rfl
                refine one_ (i:=3) (N:=some 88) #[true,true,true,true,false,true,true,true,true,true,false,false,false] rfl rfl (by kernel_rfl) (by decide) (fun K hK=>?_)
                refine goes_ Tryz.func59 (by kernel_rfl) rfl #[.agg #[.int .i64 H,.int .i64 W,.slice (some adb) bl.length c2,.slice A3 ri.length c3,.slice (some ade) be.length c4],.int .i64 q2] (by rfl) rfl rfl (by first | (go_simp;done) | (go_simp;rfl)) ?_
                refine (hsd.out _ BXd).mono ?_
                rintro e we ⟨rfl,hb⟩
                refine ⟨_,rfl,?_⟩
                have BXe:=BXd.trans (hb.mono BXd.size)
                have BIe:=BId.trans (hb.mono BId.size)
                clear hb hHeld
                refine hK.out _ _ (⟨GridBox.of (blk_below G5.out BXe),(blk_cell (blk_below P5.out BXe) 6).trans rfl,zc5 _ BXe⟩) (fun hHeld=>?_)
                clear hK K
                refine norm_ (a':=?_) ?_ ?_
                rotate_left
                · show Act.put _ (some 88) _ = _
                  simp only [Act.put,List.setIfInBounds_toArray,List.set_cons_zero,List.set_cons_succ,i64_w,i32_w];rfl
                refine pure_ (i:=4) (N:=some 89) (v:=?_) (a':=?_) #[true,true,true,true,true,true,true,true,true,true,false,false,false] rfl rfl (by kernel_rfl) (fun _ _ _ h=>h) (Or.inl ⟨by rfl,?_⟩) ?_ ?_
                rotate_left
                · intro w';go_simp;rw [if_neg (show ¬ 9223372036854775807 < d.size + 1 by omega)]
                rotate_left
                · simp only [Act.put,List.setIfInBounds_toArray,List.set_cons_zero,List.set_cons_succ,i64_w,i32_w];rfl
                refine one_ (i:=10) (N:=some 95) #[true,true,true,true,true,true,true,true,true,true,true,false,false] rfl rfl (by kernel_rfl) (by decide) (fun K hK=>?_)
                refine goes_ Tryz.func61 (by kernel_rfl) rfl #[.string x] (by rfl) rfl rfl (by first | (go_simp;done) | (go_simp;rfl)) ?_
                refine (middle2_calls hxs hkn.out hk3 _).mono ?_
                rw [hM.out]
                rintro e wf ⟨rfl,hb⟩
                refine ⟨_,rfl,?_⟩
                have BXf:=BXe.trans (hb.mono BXe.size)
                have BIf:=BIe.trans (hb.mono BIe.size)
                clear hb hHeld
                refine hK.out _ _ (⟨GridBox.of (blk_below G5.out BXf),(blk_cell (blk_below P5.out BXf) 6).trans rfl,zc5 _ BXf⟩) (fun hHeld=>?_)
                clear hK K
                refine norm_ (a':=?_) ?_ ?_
                rotate_left
                · show Act.put _ (some 95) _ = _
                  simp only [Act.put,List.setIfInBounds_toArray,List.set_cons_zero,List.set_cons_succ,i64_w,i32_w];rfl
                refine pure_ (i:=11) (N:=some 96) (v:=?_) (a':=?_) #[true,true,true,true,true,true,true,true,true,true,true,true,false] rfl rfl (by kernel_rfl) (fun _ _ _ h=>h) (Or.inl ⟨by rfl,?_⟩) ?_ ?_
                rotate_left
                · intro w';go_simp;rw [if_neg (show ¬ 9223372036854775807 < d.size + 1 + M.size by omega)]
                rotate_left
                · simp only [Act.put,List.setIfInBounds_toArray,List.set_cons_zero,List.set_cons_succ,i64_w,i32_w];rfl
                refine pure_ (i:=12) (N:=some 11) (v:=?_) (a':=?_) #[true,true,true,true,true,true,true,true,true,true,true,true,true] rfl rfl (by kernel_rfl) (fun _ _ _ h=>h) (Or.inl ⟨by rfl,?_⟩) ?_ ?_
                rotate_left
                · intro w';go_simp;try with_reducible rfl
                rotate_left
                · simp only [Act.put,List.setIfInBounds_toArray,List.set_cons_zero,List.set_cons_succ,i64_w,i32_w];rfl
                refine done_ (by kernel_rfl) ?_
                go_wp2
                refine ⟨⟨c + 1,q2 + 1,a ++ ⟨#[43,45,45,45]⟩,b ++ V ++ N,d ++ V ++ M,rfl,rfl,rfl,rfl,Lib.hid ⟨by have:=hc.out;omega,hcw⟩,Lib.hid ⟨by rw [cat_snoc,← hcat.out.1,hfAc.out],by rw [cat_snoc,← hcat.out.2.1,hfBc.out,ByteArray.append_assoc],by rw [cat_snoc,← hcat.out.2.2,hfCc.out,ByteArray.append_assoc]⟩,Lib.hid BIf⟩,?_⟩
                simp only [intOf];have:=hc.out;omega
          · have hr0 : r = 0:=by omega
            have hfA2 : fA c = ⟨#[43,45,45,45]⟩:=by
              rw [hfAc]
              unfold topB
              rw [if_neg (fun h=>hp0 h.1)]
            clear hfAc
            have hfAc:=Lib.hid hfA2
            clear hfA2
            have tr1 : decide ((0 : Int) < (r : Int)) = false:=decide_eq_false (by omega)
            have tr2 : decide (0 < r) = false:=decide_eq_false hp0
            replace hp0:=Lib.hid hp0
            clear hr0
            have BXa:=BX
            have BIa:=hBi.out
            cases bb with
            | true =>
              rw [if_pos rfl] at hfBc hfCc
              replace hfBc:=Lib.hid hfBc
              replace hfCc:=Lib.hid hfCc
              cases eAb
              go_wp2_with (first
                | (go_at_call 59;have tq:=tok1;go_must (clear tq tok1;refine (hsd.out _ BXa).mono ?_;rintro e wb ⟨rfl,hb⟩;have BXb:=BXa.trans (hb.mono BXa.size);have BIb:=BIa.trans (hb.mono BIa.size);clear hb;obtain ⟨g0,g1,g2,g3,g4⟩:=GridBox.of (blk_below G5.out BXb)))
                | (go_at_call 59;have tq:=tok2;go_must (clear tq tok2;refine (hsd.out _ BXb).mono ?_;rintro e wc ⟨rfl,hb⟩;have BXc:=BXb.trans (hb.mono BXb.size);have BIc:=BIb.trans (hb.mono BIb.size);clear hb;obtain ⟨g0,g1,g2,g3,g4⟩:=GridBox.of (blk_below G5.out BXc))))
              refine ⟨⟨c + 1,q2 + 1,a ++ ⟨#[43,45,45,45]⟩,b ++ V ++ (⟨#[35,35,35]⟩ : ByteArray),d ++ V ++ (⟨#[35,35,35]⟩ : ByteArray),rfl,rfl,rfl,rfl,Lib.hid ⟨by have:=hc.out;omega,hcw⟩,Lib.hid ⟨by rw [cat_snoc,← hcat.out.1,hfAc.out],by rw [cat_snoc,← hcat.out.2.1,hfBc.out,ByteArray.append_assoc],by rw [cat_snoc,← hcat.out.2.2,hfCc.out,ByteArray.append_assoc]⟩,Lib.hid BIc⟩,?_⟩
              simp only [intOf];have:=hc.out;omega
            | false =>
              rw [if_neg (by decide)] at hfBc hfCc
              cases eAb
              have hqc : q2 < (cells.length : Int):=by rw [hs.out];exact i1
              obtain ⟨adc,eAc,zc⟩:=Kd.at_string (hP5.out.below BX).r5 q2 i0 hqc
              cases eAc
              have zc5 : ∀ w1,Below w5.heap.size w5 w1 → w1.cell? (adc.add q2.toNat) = some (.string (rdOf ByteArray.empty cells q2)):=fun w1 h1=>by
                obtain ⟨ad1,e1,z1⟩:=Kd.at_string (hP5.out.below h1).r5 q2 i0 hqc
                cases e1
                exact z1
              obtain ⟨nx,hk3,hkn⟩:=rd_cell hok.out q2
              have hxs:=rd_small hz.out.s q2
              obtain ⟨x,hx⟩ : ∃ x,rdOf ByteArray.empty cells q2 = x:=⟨_,rfl⟩
              simp only [hx] at zc5
              rw [hx] at zc hkn hxs hfCc
              replace zc5:=zc5
              clear hx
              have hNs : (padB (numB L q2)).size ≤ 6:=by rw [← hnf.out q2 i0 hqc];have h1:=pad_size (s:=rdOf ByteArray.empty nums q2);have h2:=(rd_num hno.out.1 q2).1;omega
              have hMs : (midB x).size ≤ 1048580:=by have h1:=mid_size (s:=x);omega
              obtain ⟨N,hNq⟩ : ∃ N,padB (numB L q2) = N:=⟨_,rfl⟩
              obtain ⟨M,hM⟩ : ∃ M,midB x = M:=⟨_,rfl⟩
              rw [hNq] at hfBc hNs
              rw [hM] at hfCc hMs
              replace hfBc:=Lib.hid hfBc
              replace hfCc:=Lib.hid hfCc
              replace hNq:=Lib.hid hNq
              replace hM:=Lib.hid hM
              replace hkn:=Lib.hid hkn
              have u7 : ¬ (9223372036854775807 : Int) < (b.size : Int) + (V.size : Int) + (N.size : Int):=by omega
              have hslf : ∀ x ∈ L,1 ≤ x.f2.length:=fun x hx=>(hfir.out x hx).1
              have hLl : L.length ≤ 512:=by have:=hfac.out;omega
              replace hslf:=Lib.hid hslf
              go_wp2_with (first
                | (go_at_call 59;have tq:=tok1;go_must (clear tq tok1;refine (hsd.out _ BXa).mono ?_;rintro e wb ⟨rfl,hb⟩;have BXb:=BXa.trans (hb.mono BXa.size);have BIb:=BIa.trans (hb.mono BIa.size);clear hb;obtain ⟨g0,g1,g2,g3,g4⟩:=GridBox.of (blk_below G5.out BXb)))
                | (go_at_call 60;go_must (refine (number2_calls (Kd.C_below CL.out BXb) hLl hslf.out hnum.out).mono ?_;rw [hNq.out];rintro e wc ⟨rfl,hb⟩;have BXc:=BXb.trans (hb.mono BXb.size);have BIc:=BIb.trans (hb.mono BIb.size);clear hb;obtain ⟨g0,g1,g2,g3,g4⟩:=GridBox.of (blk_below G5.out BXc))))
              have BXd:=BXc.trans ((below_drew (Below.refl wc.heap.size wc)).mono BXc.size)
              have BId:=BIc.trans ((below_drew (Below.refl wc.heap.size wc)).mono BIc.size)
              subst hQ
              refine start_ (n:=13) (S:=fun w'=>(w'.cell? ⟨w3.heap.size,0,none⟩ = some (.int .i64 H) ∧ w'.cell? ⟨w3.heap.size,1,none⟩ = some (.int .i64 W) ∧ w'.cell? ⟨w3.heap.size,2,none⟩ = some (.slice (some adb) bl.length c2) ∧ w'.cell? ⟨w3.heap.size,3,none⟩ = some (.slice A3 ri.length c3) ∧ w'.cell? ⟨w3.heap.size,4,none⟩ = some (.slice A4 be.length c4)) ∧ w'.cell? ⟨w.heap.size,6,none⟩ = some (.slice (some adc) cells.length c5) ∧ w'.cell? (adc.add q2.toNat) = some (.string x)) (ds:=[]) #[false,false,false,false,false,false,false,false,false,false,false,false,false] (by kernel_rfl) rfl rfl (⟨GridBox.of (blk_below G5.out BXd),(blk_cell (blk_below P5.out BXd) 6).trans rfl,zc5 _ BXd⟩) (fun hHeld=>?_)
              generalize wc.drew = wd at BXd BId hHeld ⊢
              refine pure_ (i:=0) (N:=some 85) (v:=?_) (a':=?_) #[true,false,false,false,false,false,false,false,false,false,false,false,false] rfl rfl (by kernel_rfl) (fun _ _ _ h=>h) (Or.inl ⟨by rfl,?_⟩) ?_ ?_
              rotate_left
              · intro w';go_simp;try with_reducible rfl
              rotate_left
              · simp only [Act.put,List.setIfInBounds_toArray,List.set_cons_zero,List.set_cons_succ,i64_w,i32_w];rfl
              refine pure_ (i:=2) (N:=some 87) (v:=?_) (a':=?_) #[true,false,true,false,false,false,false,false,false,false,false,false,false] rfl rfl (by kernel_rfl) (fun _ _ _ h=>h) (Or.inl ⟨by rfl,?_⟩) ?_ ?_
              rotate_left
              · intro w';go_simp;try with_reducible rfl
              rotate_left
              · simp only [Act.put,List.setIfInBounds_toArray,List.set_cons_zero,List.set_cons_succ,i64_w,i32_w];rfl
              refine pure_ (i:=5) (N:=some 90) (v:=?_) (a':=?_) #[true,false,true,false,false,true,false,false,false,false,false,false,false] rfl rfl (by kernel_rfl) (fun _ _ _ h=>h) (Or.inl ⟨by rfl,?_⟩) ?_ ?_
              rotate_left
              · intro w';go_simp;try with_reducible rfl
              rotate_left
              · simp only [Act.put,List.setIfInBounds_toArray,List.set_cons_zero,List.set_cons_succ,i64_w,i32_w];rfl
              refine pure_ (i:=7) (N:=some 92) (v:=?_) (a':=?_) #[true,false,true,false,false,true,false,true,false,false,false,false,false] rfl rfl (by kernel_rfl) (fun _ _ _ h=>h) (Or.inl ⟨by rfl,?_⟩) ?_ ?_
              rotate_left
              · intro w';go_simp;try with_reducible rfl
              rotate_left
              · simp only [Act.put,List.setIfInBounds_toArray,List.set_cons_zero,List.set_cons_succ,i64_w,i32_w];rfl
              refine take_ (i:=1) (N:=some 86) (v:=?_) (a':=?_) #[true,true,true,false,false,true,false,true,false,false,false,false,false] rfl rfl (by kernel_rfl) (fun _ _ _ h=>h) (Or.inl ⟨by rfl,?_⟩) hHeld ?_ ?_
              rotate_left
              · rintro w' ⟨⟨s0,s1,s2,s3,s4⟩,s5,s6⟩;go_simp;try with_reducible rfl
              rotate_left
              · simp only [Act.put,List.setIfInBounds_toArray,List.set_cons_zero,List.set_cons_succ,i64_w,i32_w];rfl
              refine take_ (i:=6) (N:=some 91) (v:=?_) (a':=?_) #[true,true,true,false,false,true,true,true,false,false,false,false,false] rfl rfl (by kernel_rfl) (fun _ _ _ h=>h) (Or.inl ⟨by rfl,?_⟩) hHeld ?_ ?_
              rotate_left
              · rintro w' ⟨⟨s0,s1,s2,s3,s4⟩,s5,s6⟩;go_simp;try with_reducible rfl
              rotate_left
              · simp only [Act.put,List.setIfInBounds_toArray,List.set_cons_zero,List.set_cons_succ,i64_w,i32_w];rfl
              refine pure_ (i:=8) (N:=some 93) (v:=?_) (a':=?_) #[true,true,true,false,false,true,true,true,true,false,false,false,false] rfl rfl (by kernel_rfl) (fun _ _ _ h=>h) (Or.inl ⟨by rfl,?_⟩) ?_ ?_
              rotate_left
              · intro w';go_simp;try with_reducible rfl
              rotate_left
              · simp only [Act.put,List.setIfInBounds_toArray,List.set_cons_zero,List.set_cons_succ,i64_w,i32_w];rfl
              refine take_ (i:=9) (N:=some 94) (v:=?_) (a':=?_) #[true,true,true,false,false,true,true,true,true,true,false,false,false] rfl rfl (by kernel_rfl) (fun _ _ _ h=>h) (Or.inl ⟨by rfl,?_⟩) hHeld ?_ ?_
              rotate_left
              · rintro w' ⟨⟨s0,s1,s2,s3,s4⟩,s5,s6⟩;go_simp;try with_reducible rfl
              rotate_left
              · simp only [Act.put,List.setIfInBounds_toArray,List.set_cons_zero,List.set_cons_succ,i64_w,i32_w];rfl
              refine one_ (i:=3) (N:=some 88) #[true,true,true,true,false,true,true,true,true,true,false,false,false] rfl rfl (by kernel_rfl) (by decide) (fun K hK=>?_)
              refine goes_ Tryz.func59 (by kernel_rfl) rfl #[.agg #[.int .i64 H,.int .i64 W,.slice (some adb) bl.length c2,.slice A3 ri.length c3,.slice A4 be.length c4],.int .i64 q2] (by rfl) rfl rfl (by first | (go_simp;done) | (go_simp;rfl)) ?_
              refine (hsd.out _ BXd).mono ?_
              rintro e we ⟨rfl,hb⟩
              refine ⟨_,rfl,?_⟩
              have BXe:=BXd.trans (hb.mono BXd.size)
              have BIe:=BId.trans (hb.mono BId.size)
              clear hb hHeld
              refine hK.out _ _ (⟨GridBox.of (blk_below G5.out BXe),(blk_cell (blk_below P5.out BXe) 6).trans rfl,zc5 _ BXe⟩) (fun hHeld=>?_)
              clear hK K
              refine norm_ (a':=?_) ?_ ?_
              rotate_left
              · show Act.put _ (some 88) _ = _
                simp only [Act.put,List.setIfInBounds_toArray,List.set_cons_zero,List.set_cons_succ,i64_w,i32_w];rfl
              refine pure_ (i:=4) (N:=some 89) (v:=?_) (a':=?_) #[true,true,true,true,true,true,true,true,true,true,false,false,false] rfl rfl (by kernel_rfl) (fun _ _ _ h=>h) (Or.inl ⟨by rfl,?_⟩) ?_ ?_
              rotate_left
              · intro w';go_simp;rw [if_neg (show ¬ 9223372036854775807 < d.size + 1 by omega)]
              rotate_left
              · simp only [Act.put,List.setIfInBounds_toArray,List.set_cons_zero,List.set_cons_succ,i64_w,i32_w];rfl
              refine one_ (i:=10) (N:=some 95) #[true,true,true,true,true,true,true,true,true,true,true,false,false] rfl rfl (by kernel_rfl) (by decide) (fun K hK=>?_)
              refine goes_ Tryz.func61 (by kernel_rfl) rfl #[.string x] (by rfl) rfl rfl (by first | (go_simp;done) | (go_simp;rfl)) ?_
              refine (middle2_calls hxs hkn.out hk3 _).mono ?_
              rw [hM.out]
              rintro e wf ⟨rfl,hb⟩
              refine ⟨_,rfl,?_⟩
              have BXf:=BXe.trans (hb.mono BXe.size)
              have BIf:=BIe.trans (hb.mono BIe.size)
              clear hb hHeld
              refine hK.out _ _ (⟨GridBox.of (blk_below G5.out BXf),(blk_cell (blk_below P5.out BXf) 6).trans rfl,zc5 _ BXf⟩) (fun hHeld=>?_)
              clear hK K
              refine norm_ (a':=?_) ?_ ?_
              rotate_left
              · show Act.put _ (some 95) _ = _
                simp only [Act.put,List.setIfInBounds_toArray,List.set_cons_zero,List.set_cons_succ,i64_w,i32_w];rfl
              refine pure_ (i:=11) (N:=some 96) (v:=?_) (a':=?_) #[true,true,true,true,true,true,true,true,true,true,true,true,false] rfl rfl (by kernel_rfl) (fun _ _ _ h=>h) (Or.inl ⟨by rfl,?_⟩) ?_ ?_
              rotate_left
              · intro w';go_simp;rw [if_neg (show ¬ 9223372036854775807 < d.size + 1 + M.size by omega)]
              rotate_left
              · simp only [Act.put,List.setIfInBounds_toArray,List.set_cons_zero,List.set_cons_succ,i64_w,i32_w];rfl
              refine pure_ (i:=12) (N:=some 11) (v:=?_) (a':=?_) #[true,true,true,true,true,true,true,true,true,true,true,true,true] rfl rfl (by kernel_rfl) (fun _ _ _ h=>h) (Or.inl ⟨by rfl,?_⟩) ?_ ?_
              rotate_left
              · intro w';go_simp;try with_reducible rfl
              rotate_left
              · simp only [Act.put,List.setIfInBounds_toArray,List.set_cons_zero,List.set_cons_succ,i64_w,i32_w];rfl
              refine done_ (by kernel_rfl) ?_
              go_wp2
              refine ⟨⟨c + 1,q2 + 1,a ++ ⟨#[43,45,45,45]⟩,b ++ V ++ N,d ++ V ++ M,rfl,rfl,rfl,rfl,Lib.hid ⟨by have:=hc.out;omega,hcw⟩,Lib.hid ⟨by rw [cat_snoc,← hcat.out.1,hfAc.out],by rw [cat_snoc,← hcat.out.2.1,hfBc.out,ByteArray.append_assoc],by rw [cat_snoc,← hcat.out.2.2,hfCc.out,ByteArray.append_assoc]⟩,Lib.hid BIf⟩,?_⟩
              simp only [intOf];have:=hc.out;omega
        · have tcw : decide (q2 < p + W) = false:=decide_eq_false (by have:=hc.out;omega)
          have hcE : c = W.toNat:=by have:=hc.out;omega
          have hcat2:=hcat.out
          rw [hcE] at hcat2
          have k43 : (⟨#[43]⟩ : ByteArray).size = 1:=rfl
          have k124 : (⟨#[124]⟩ : ByteArray).size = 1:=rfl
          have u1 : ¬ (9223372036854775807 : Int) < (a.size : Int) + ((⟨#[43]⟩ : ByteArray).size : Int):=by omega
          have u2 : ¬ (9223372036854775807 : Int) < (b.size : Int) + ((⟨#[124]⟩ : ByteArray).size : Int):=by omega
          have u3 : ¬ (9223372036854775807 : Int) < (d.size : Int) + ((⟨#[124]⟩ : ByteArray).size : Int):=by omega
          have RX:=Lib.hid (Kd.R_below hR.out hBi.out)
          have hlenr : (rowsB W bl ri be nums cells r).length ≤ 100:=by rw [rows_len];omega
          replace hcat2:=Lib.hid hcat2
          replace k43:=Lib.hid k43
          replace k124:=Lib.hid k124
          replace BX:=Lib.hid BX
          subst hQ
          go_wp2_with (first
            | ((with_reducible refine gate_dst (N:=104) rfl ?_);go_must (refine Kd.R_lit Kd.string _ 9 ?hg (N:=104) ?hd (xs:=([a ++ ⟨#[43]⟩,b ++ ⟨#[124]⟩,d ++ ⟨#[124]⟩] : List ByteArray)) (inner:=[.string (a ++ ⟨#[43]⟩),.string (b ++ ⟨#[124]⟩),.string (d ++ ⟨#[124]⟩)]) (ok:=fun _=>True) (okp:=fun _=>True) ?hr ?hp (fun _ hk=>hk) trivial (Below.refl _ _) (Nat.le_refl _) (by simp) ?_;(case hd=>rfl);(case hg=>rfl);(case hr=>first | (go_simp;done) | (go_simp;rfl));(case hp=>exact Reps.one (show Kd.M Kd.string _ _ _ (a ++ ⟨#[43]⟩) [.string (a ++ ⟨#[43]⟩)] from rfl) (Reps.one (show Kd.M Kd.string _ _ _ (b ++ ⟨#[124]⟩) [.string (b ++ ⟨#[124]⟩)] from rfl) (Reps.one (show Kd.M Kd.string _ _ _ (d ++ ⟨#[124]⟩) [.string (d ++ ⟨#[124]⟩)] from rfl) (Reps.none _ _))));intro v1 w1 RY hb1 _ _;obtain ⟨B4,b4,rfl⟩:=Kd.R_slice RY;replace RX:=Lib.hid (Kd.R_below RX.out hb1);replace BX:=Lib.hid (BX.out.trans (hb1.mono BX.out.size));replace RY:=Lib.hid RY;clear hb1))
            | ((with_reducible refine gate_builtin (b:=.append) (xs:=#[.tmp 97,.tmp 104]) rfl ?_);go_must (at_builtin;refine Kd.R_append_rows Kd.string (w0:=w5) w5.heap.size rfl (.tmp 97) (.tmp 104) 25 9 (.string ⟨#[]⟩) 16 rfl Tryz.underlying25 str_info rfl (by decide) (by decide) _ (rowsB W bl ri be nums cells r) [a ++ ⟨#[43]⟩,b ++ ⟨#[124]⟩,d ++ ⟨#[124]⟩] _ _ _ (fun _=>True) (fun _=>False) rfl rfl ?aO ?aR (fun _ _ h=>h) (fun _ h=>h.elim) ?aF ?aB ?aS ?aL ?_;(case aR=>exact (Kd.R_reads' RY.out).2.2);(case aB=>exact BX.out);(case aF=>exact (fun _ _=>trivial));(case aO=>exact RX.out);(case aS=>exact BX.out.size);(case aL=>simp only [List.length_cons,List.length_nil];omega);intro v2 w2 R2 hb2 _ _;have R3:=Lib.hid R2;have B3:=Lib.hid hb2;clear R2 hb2)))
          refine ⟨⟨r + 1,(r : Int) + 1,rfl,Lib.hid ⟨by omega,hlt⟩,Lib.hid ?_,B3⟩,?_⟩
          · rw [hrows.out,← hcat2.out.1,← hcat2.out.2.1,← hcat2.out.2.2]
            exact R3.out
          · simp only [intOf];omega
    · have tlt : decide (q < H) = false:=decide_eq_false (by have:=hq.out;omega)
      have hrE : r = H.toNat:=by have:=hq.out;omega
      subst hrE
      obtain ⟨wo,rfl⟩ : ∃ x,x = wr:=⟨_,rfl⟩
      go_wp2
      go_loopw [13,14] (fun v13 v14 wi=>∃ (c : Nat) (t : ByteArray),v13 = .string t ∧ v14 = .int .i64 (c : Int) ∧ Hid (c ≤ W.toNat ∧ t = catB (fun _=>⟨#[43,45,45,45]⟩) c) ∧ Hid (wi = wo)) (fun _ v14 _=>W.toNat - (intOf v14).toNat)
      case atStart=>exact ⟨0,⟨#[]⟩,rfl,rfl,Lib.hid ⟨Nat.zero_le _,rfl⟩,Lib.hid rfl⟩
      case round =>
        obtain ⟨c,t,rfl,rfl,hc,hwi⟩:=hrel
        obtain rfl:=hwi.out
        have zt : t.size ≤ 67108864:=by
          rw [hc.out.2]
          have h1:=catB_size (f:=fun _=>(⟨#[43,45,45,45]⟩ : ByteArray)) (m:=4) c (fun _=>by show (4 : Nat) ≤ 4;omega)
          have:=hc.out.1
          omega
        have k5 : (⟨#[43,45,45,45]⟩ : ByteArray).size = 4:=rfl
        have k43 : (⟨#[43]⟩ : ByteArray).size = 1:=rfl
        by_cases hcw : c < W.toNat
        · have tcw : decide ((c : Int) < W) = true:=decide_eq_true (by omega)
          have u1 : ¬ (9223372036854775807 : Int) < (t.size : Int) + ((⟨#[43,45,45,45]⟩ : ByteArray).size : Int):=by omega
          replace k5:=Lib.hid k5
          go_wp2
          refine ⟨⟨c + 1,t ++ ⟨#[43,45,45,45]⟩,rfl,rfl,Lib.hid ⟨hcw,by rw [cat_snoc,← hc.out.2]⟩,by first | exact Lib.hid rfl | exact Lib.hid trivial⟩,?_⟩
          simp only [intOf];omega
        · have tcw : decide ((c : Int) < W) = false:=decide_eq_false (by have:=hc.out;omega)
          have hcE : c = W.toNat:=by have:=hc.out;omega
          have u1 : ¬ (9223372036854775807 : Int) < (t.size : Int) + ((⟨#[43]⟩ : ByteArray).size : Int):=by omega
          have hlenr : (rowsB W bl ri be nums cells H.toNat).length ≤ 100:=by rw [rows_len];omega
          have htl : rowB W 0 (fun _=>⟨#[43,45,45,45]⟩) ⟨#[43]⟩ = t ++ ⟨#[43]⟩:=by unfold rowB;rw [hc.out.2,hcE]
          have hBw:=hB
          replace k43:=Lib.hid k43
          replace htl:=Lib.hid htl
          go_wp2_with (first
            | ((with_reducible refine gate_dst (N:=117) rfl ?_);go_must (refine Kd.R_lit Kd.string _ 9 ?hg (N:=117) ?hd (xs:=([t ++ ⟨#[43]⟩] : List ByteArray)) (inner:=[.string (t ++ ⟨#[43]⟩)]) (ok:=fun _=>True) (okp:=fun _=>True) ?hr ?hp (fun _ hk=>hk) trivial (Below.refl _ _) (Nat.le_refl _) (by simp) ?_;(case hd=>rfl);(case hg=>rfl);(case hr=>first | (go_simp;done) | (go_simp;rfl));(case hp=>exact Reps.one (show Kd.M Kd.string _ _ _ (t ++ ⟨#[43]⟩) [.string (t ++ ⟨#[43]⟩)] from rfl) (Reps.none _ _));intro v1 w1 RY hb1 _ _;obtain ⟨B4,b4,rfl⟩:=Kd.R_slice RY;have RX:=Lib.hid (Kd.R_below hR.out hb1);have BX:=Lib.hid (hB.out.trans (hb1.mono hB.out.size));replace RY:=Lib.hid RY;clear hb1))
            | ((with_reducible refine gate_builtin (b:=.append) (xs:=#[.tmp 114,.tmp 117]) rfl ?_);go_must (at_builtin;refine Kd.R_append_rows Kd.string (w0:=w5) w5.heap.size rfl (.tmp 114) (.tmp 117) 25 9 (.string ⟨#[]⟩) 16 rfl Tryz.underlying25 str_info rfl (by decide) (by decide) _ (rowsB W bl ri be nums cells H.toNat) [t ++ ⟨#[43]⟩] _ _ _ (fun _=>True) (fun _=>False) rfl rfl ?aO ?aR (fun _ _ h=>h) (fun _ h=>h.elim) ?aF ?aB ?aS ?aL ?_;(case aR=>exact (Kd.R_reads' RY.out).2.2);(case aB=>exact BX.out);(case aF=>exact (fun _ _=>trivial));(case aO=>exact RX.out);(case aS=>exact BX.out.size);(case aL=>simp only [List.length_cons,List.length_nil];omega);intro v2 w2 R2 hb2 _ _;have R3:=Lib.hid R2;have B3:=Lib.hid hb2;clear R2 hb2)))
          go_ret2
          refine ⟨_,rfl,?_,B5.out.trans (B3.out.mono B5.out.size)⟩
          rw [htl.out]
          exact Kd.R_lower R3.out B5.out.size
end Go.Proofs.YtpfbcepgmigeiaaGreatDoor.Q
