/-
  PageDraws, WHERE WHAT IT READS IS OF BULK AT MOST 1048576: IT RETURNS true (Check and Draw of any puzzle are the document's), AND ITS ARGUMENTS READ AS THEY DID. The card ties utf8's two tables to the program's text.
-/
import Derived.Test.YtkblbggmpahljaaGreatDoorCards
import Derived.Test.YtkblbggmpahljaaGreatDoorTie
import Derived.Test.YtkblbggmpahljaaGreatDoorDa9
import Derived.Test.YtkblbggmpahljaaGreatDoorDa11
import Derived.Test.YtkblbggmpahljaaGreatDoorDa12
import Derived.Test.YtkblbggmpahljaaGreatDoorDa17
set_option linter.unusedVariables false
set_option linter.unusedSimpArgs false
section
namespace Go.Proofs.YtkblbggmpahljaaGreatDoor.Q
open Go.RowKit Go.Proofs.YtkblbggmpahljaaGreatDoorW.PrintWords Go.Proofs.YtkblbggmpahljaaGreatDoorW.PrintLast Go.Proofs.YtkblbggmpahljaaGreatDoorW.PrintMore
set_option linter.unusedVariables false
set_option linter.unusedSimpArgs false
open Go.Proofs.YtkblbggmpahljaaGreatDoorS
theorem copied_f {title : ByteArray} {H W : Int} {bl ri be : List Bool} {cells clues : List ByteArray} (h1 : bl.length ≤ 1048576) (h2 : ri.length ≤ 1048576) (h3 : be.length ≤ 1048576) (h4 : cells.length ≤ 1048576) (h5 : clues.length ≤ 1048576) : rebusref21_Copied.f title H W bl ri be cells clues = some (title,H,W,bl,ri,be,cells,clues):=by
  unfold rebusref21_Copied.f
  simp only [Option.bind_some,List.length_nil,Nat.zero_add,List.nil_append]
  rw [if_pos (by omega),if_pos (by omega),if_pos (by omega),if_pos (by omega),if_pos (by omega)]
set_option maxHeartbeats 16000000 in
set_option maxRecDepth 1000000 in
theorem draws_bad {title : ByteArray} {H W : Int} {A2 : Option Addr} {c2 : Nat} {bl : List Bool} {A3 : Option Addr} {c3 : Nat} {ri : List Bool} {A4 : Option Addr} {c4 : Nat} {be : List Bool} {A5 : Option Addr} {c5 : Nat} {cells : List ByteArray} {A6 : Option Addr} {c6 : Nat} {clues : List ByteArray} {w : World} (hT : Tabs w) (hP : PuzR A2 c2 bl A3 c3 ri A4 c4 be A5 c5 cells A6 c6 clues w) (hz : PuzS title cells clues) (hs : GridS bl ri be) {er : Int} (hp : pcheck title H W bl ri be cells clues = er) (he : er ≠ 0) :
    Calls Tryz.prog 3 #[.agg #[.string title,.int .i64 H,.int .i64 W,.slice A2 bl.length c2,.slice A3 ri.length c3,.slice A4 be.length c4,.slice A5 cells.length c5,.slice A6 clues.length c6]] w fun e w'=>e = .returned (.bool true) ∧ Below w.heap.size w w':=by
  have hcf:=copied_f (title:=title) (H:=H) (W:=W) (bl:=bl) (ri:=ri) (be:=be) (cells:=cells) (clues:=clues) hs.b hs.r hs.e hz.l hz.m
  have hx:=box1 w (.cells #[.string title,.int .i64 H,.int .i64 W,.slice A2 bl.length c2,.slice A3 ri.length c3,.slice A4 be.length c4,.slice A5 cells.length c5,.slice A6 clues.length c6] 27)
  replace hx:=Lib.hid hx
  replace hp:=Lib.hid hp
  replace hcf:=Lib.hid hcf
  have hs0:=Lib.hid hs
  have hz0:=Lib.hid hz
  have hP0:=Lib.hid hP
  clear hs hz hP
  have hu27:=Tryz.underlying27
  have hu24:=Tryz.underlying24
  have tok1 : True:=trivial
  have tok2 : True:=trivial
  have te : (er != 0) = true:=bne_iff_ne.2 he
  have te2 : (er != er) = false:=by simp
  go_enter Tryz.func3,Tryz.ntmps3
  go_wp2_with (first
    | (go_at_call 4;go_must (refine (rebuslaw21_awake.calls (tabs_below hT hx.out.2)).mono ?_;rintro e w2 ⟨rfl,hb2⟩;have P2:=Lib.hid (blk_below hx.out.1 hb2);have p2:=cells8 P2.out;have B2:=Lib.hid (below_step hx.out.2 hb2);clear hb2))
    | (go_at_call 5;go_must (have hPx:=hP0.out.below B2.out;refine (rebusref21_Copied.calls title H W A2 c2 bl A3 c3 ri A4 c4 be A5 c5 cells A6 c6 clues title H W bl ri be cells clues _ hPx.r2 hPx.k2 hPx.r3 hPx.k3 hPx.r4 hPx.k4 hPx.r5 hPx.k5 hPx.r6 hPx.k6 hcf.out).mono ?_;clear hPx;rintro e w5 ⟨v3,v4,v5,v6,v7,rfl,R3,R4,R5,R6,R7,hb5⟩;obtain ⟨D3,k3,rfl⟩:=Kd.R_slice R3;obtain ⟨D4,k4,rfl⟩:=Kd.R_slice R4;obtain ⟨D5,k5,rfl⟩:=Kd.R_slice R5;obtain ⟨D6,k6,rfl⟩:=Kd.R_slice R6;obtain ⟨D7,k7,rfl⟩:=Kd.R_slice R7;have q6:=box1 w5 (.cells #[.string title,.int .i64 H,.int .i64 W,.slice D3 bl.length k3,.slice D4 ri.length k4,.slice D5 be.length k5,.slice D6 cells.length k6,.slice D7 clues.length k7] 27);obtain ⟨-,kk3,C3⟩:=Kd.R_reads' R3;obtain ⟨-,kk4,C4⟩:=Kd.R_reads' R4;obtain ⟨-,kk5,C5⟩:=Kd.R_reads' R5;obtain ⟨-,kk6,C6⟩:=Kd.R_reads' R6;obtain ⟨-,kk7,C7⟩:=Kd.R_reads' R7;have hQ6:=Lib.hid ((PuzR.mk C3 kk3 C4 kk4 C5 kk5 C6 kk6 C7 kk7).below q6.2);have B5:=below_step B2.out hb5;have B6:=Lib.hid (below_step B5 q6.2);have hP6:=Lib.hid (hP0.out.below B6.out);have P6:=Lib.hid (blk_below (blk_below P2.out hb5) q6.2);have Q6:=Lib.hid q6.1;have T6:=Lib.hid (tabs_below hT B6.out);have p6:=cells8 P6.out;have s6:=cells8 Q6.out;have BW6:=Lib.hid (Below.refl (w5.alloc (.cells #[.string title,.int .i64 H,.int .i64 W,.slice D3 bl.length k3,.slice D4 ri.length k4,.slice D5 be.length k5,.slice D6 cells.length k6,.slice D7 clues.length k7] 27)).heap.size (w5.alloc (.cells #[.string title,.int .i64 H,.int .i64 W,.slice D3 bl.length k3,.slice D4 ri.length k4,.slice D5 be.length k5,.slice D6 cells.length k6,.slice D7 clues.length k7] 27)));clear R3 R4 R5 R6 R7 C3 C4 C5 C6 C7 kk3 kk4 kk5 kk6 kk7 hb5 q6 B5 p2 P2))
    | (go_at_call 6;go_must (refine (draw_bad T6.out hQ6.out hz0.out hp.out he).mono ?_;rintro e w7 ⟨rfl,hb⟩;have BW7:=Lib.hid (BW6.out.trans (hb.mono BW6.out.size));have p7:=cells8 (blk_below P6.out BW7.out);have s7:=cells8 (blk_below Q6.out BW7.out);clear hb p6 s6 BW6))
    | (go_at_call 7;go_must (refine (draw2_bad (hP6.out.below BW7.out) hz0.out hp.out he).mono ?_;rintro e w8 ⟨rfl,hb⟩;have BW8:=Lib.hid (BW7.out.trans (hb.mono BW7.out.size));have p8:=cells8 (blk_below P6.out BW8.out);have s8:=cells8 (blk_below Q6.out BW8.out);clear hb p7 s7 BW7))
    | (go_at_call 8;go_must (refine (page_calls (tabs_below T6.out BW8.out) (hQ6.out.below BW8.out) hz0.out).mono ?_;rw [hp.out];rintro e w9 ⟨rfl,hb⟩;have BW9:=Lib.hid (BW8.out.trans (hb.mono BW8.out.size));have p9:=cells8 (blk_below P6.out BW9.out);have s9:=cells8 (blk_below Q6.out BW9.out);clear hb p8 s8 BW8))
    | (go_at_call 9;go_must (refine (rebusref01_SameTexts.calls (A:=none) (B:=none) (c:=0) (d:=0) (l:=[]) (by decide) (Kd.C_nil _ _) (Kd.C_nil _ _)).mono ?_;rintro e w10 ⟨rfl,hb⟩;have BW10:=Lib.hid (BW9.out.trans (hb.mono BW9.out.size));have p10:=cells8 (blk_below P6.out BW10.out);have s10:=cells8 (blk_below Q6.out BW10.out);clear hb p9 s9 BW9))
    | (go_at_call 10;go_must (refine (rebusref21_Same.calls hs0.out hz0.out (hQ6.out.below BW10.out) (hP6.out.below BW10.out)).mono ?_;rintro e w11 ⟨rfl,hb⟩;have BW11:=Lib.hid (BW10.out.trans (hb.mono BW10.out.size));have p11:=cells8 (blk_below P6.out BW11.out);have s11:=cells8 (blk_below Q6.out BW11.out);clear hb p10 s10 BW10)))
  clear p11 s11
  go_loopw [48] (fun v48 wr=>v48 = .int .i64 0 ∧ Hid (Below (w5.alloc (.cells #[.string title,.int .i64 H,.int .i64 W,.slice D3 bl.length k3,.slice D4 ri.length k4,.slice D5 be.length k5,.slice D6 cells.length k6,.slice D7 clues.length k7] 27)).heap.size (w5.alloc (.cells #[.string title,.int .i64 H,.int .i64 W,.slice D3 bl.length k3,.slice D4 ri.length k4,.slice D5 be.length k5,.slice D6 cells.length k6,.slice D7 clues.length k7] 27)) wr)) (fun _ _=>0)
  case atStart=>exact ⟨rfl,BW11⟩
  case round =>
    obtain ⟨rfl,BWr⟩:=hrel
    have pr:=cells8 (blk_below P6.out BWr.out)
    have sr:=cells8 (blk_below Q6.out BWr.out)
    go_wp2_with (first
      | (go_at_call 6;go_must (refine (draw_bad (tabs_below T6.out BWr.out) (hQ6.out.below BWr.out) hz0.out hp.out he).mono ?_;rintro e w12 ⟨rfl,hb⟩;have BW12:=Lib.hid (BWr.out.trans (hb.mono BWr.out.size));have p12:=cells8 (blk_below P6.out BW12.out);have s12:=cells8 (blk_below Q6.out BW12.out);clear hb pr sr))
      | (go_at_call 9;go_must (refine (rebusref01_SameTexts.calls (A:=none) (B:=none) (c:=0) (d:=0) (l:=[]) (by decide) (Kd.C_nil _ _) (Kd.C_nil _ _)).mono ?_;rintro e w13 ⟨rfl,hb⟩;have BW13:=Lib.hid (BW12.out.trans (hb.mono BW12.out.size));have p13:=cells8 (blk_below P6.out BW13.out);have s13:=cells8 (blk_below Q6.out BW13.out);clear hb p12 s12 BW12)))
    go_ret
    exact ⟨rfl,B6.out.trans (BW13.out.mono B6.out.size)⟩
set_option maxHeartbeats 16000000 in
set_option maxRecDepth 1000000 in
theorem draws_ok {title : ByteArray} {H W : Int} {A2 : Option Addr} {c2 : Nat} {bl : List Bool} {A3 : Option Addr} {c3 : Nat} {ri : List Bool} {A4 : Option Addr} {c4 : Nat} {be : List Bool} {A5 : Option Addr} {c5 : Nat} {cells : List ByteArray} {A6 : Option Addr} {c6 : Nat} {clues : List ByteArray} {w : World} (hT : Tabs w) (hP : PuzR A2 c2 bl A3 c3 ri A4 c4 be A5 c5 cells A6 c6 clues w) (hz : PuzS title cells clues) (hs : GridS bl ri be) (hp : pcheck title H W bl ri be cells clues = 0) :
    Calls Tryz.prog 3 #[.agg #[.string title,.int .i64 H,.int .i64 W,.slice A2 bl.length c2,.slice A3 ri.length c3,.slice A4 be.length c4,.slice A5 cells.length c5,.slice A6 clues.length c6]] w fun e w'=>e = .returned (.bool true) ∧ Below w.heap.size w w':=by
  obtain ⟨hg,-,-,-,-⟩:=pcheck_right hp
  obtain ⟨hH,hW,-⟩:=gcheck_ok hg
  have hlA:=draw_len (H:=H) (W:=W) (bl:=bl) (ri:=ri) (be:=be) (cells:=cells)
  obtain ⟨lA,hA⟩ : ∃ l,drawB H W bl ri be cells = l:=⟨_,rfl⟩
  rw [hA] at hlA
  have hl1 : 0 < lA.length:=by rw [hlA];omega
  have hl2 : lA.length ≤ 49:=by rw [hlA];omega
  have hl3 : lA.length ≤ 1048576:=by omega
  clear hlA hg
  replace hA:=Lib.hid hA
  have hcf:=copied_f (title:=title) (H:=H) (W:=W) (bl:=bl) (ri:=ri) (be:=be) (cells:=cells) (clues:=clues) hs.b hs.r hs.e hz.l hz.m
  have hx:=box1 w (.cells #[.string title,.int .i64 H,.int .i64 W,.slice A2 bl.length c2,.slice A3 ri.length c3,.slice A4 be.length c4,.slice A5 cells.length c5,.slice A6 clues.length c6] 27)
  replace hx:=Lib.hid hx
  replace hp:=Lib.hid hp
  replace hcf:=Lib.hid hcf
  have hs0:=Lib.hid hs
  have hz0:=Lib.hid hz
  have hP0:=Lib.hid hP
  clear hs hz hP
  have hu27:=Tryz.underlying27
  have hu24:=Tryz.underlying24
  have tok1 : True:=trivial
  have tok2 : True:=trivial
  have t0 : ((0 : Int) != 0) = false:=rfl
  go_enter Tryz.func3,Tryz.ntmps3
  go_wp2_with (first
    | (go_at_call 4;go_must (refine (rebuslaw21_awake.calls (tabs_below hT hx.out.2)).mono ?_;rintro e w2 ⟨rfl,hb2⟩;have P2:=Lib.hid (blk_below hx.out.1 hb2);have p2:=cells8 P2.out;have B2:=Lib.hid (below_step hx.out.2 hb2);clear hb2))
    | (go_at_call 5;go_must (have hPx:=hP0.out.below B2.out;refine (rebusref21_Copied.calls title H W A2 c2 bl A3 c3 ri A4 c4 be A5 c5 cells A6 c6 clues title H W bl ri be cells clues _ hPx.r2 hPx.k2 hPx.r3 hPx.k3 hPx.r4 hPx.k4 hPx.r5 hPx.k5 hPx.r6 hPx.k6 hcf.out).mono ?_;clear hPx;rintro e w5 ⟨v3,v4,v5,v6,v7,rfl,R3,R4,R5,R6,R7,hb5⟩;obtain ⟨D3,k3,rfl⟩:=Kd.R_slice R3;obtain ⟨D4,k4,rfl⟩:=Kd.R_slice R4;obtain ⟨D5,k5,rfl⟩:=Kd.R_slice R5;obtain ⟨D6,k6,rfl⟩:=Kd.R_slice R6;obtain ⟨D7,k7,rfl⟩:=Kd.R_slice R7;have q6:=box1 w5 (.cells #[.string title,.int .i64 H,.int .i64 W,.slice D3 bl.length k3,.slice D4 ri.length k4,.slice D5 be.length k5,.slice D6 cells.length k6,.slice D7 clues.length k7] 27);obtain ⟨-,kk3,C3⟩:=Kd.R_reads' R3;obtain ⟨-,kk4,C4⟩:=Kd.R_reads' R4;obtain ⟨-,kk5,C5⟩:=Kd.R_reads' R5;obtain ⟨-,kk6,C6⟩:=Kd.R_reads' R6;obtain ⟨-,kk7,C7⟩:=Kd.R_reads' R7;have hQ6:=Lib.hid ((PuzR.mk C3 kk3 C4 kk4 C5 kk5 C6 kk6 C7 kk7).below q6.2);have B5:=below_step B2.out hb5;have B6:=Lib.hid (below_step B5 q6.2);have hP6:=Lib.hid (hP0.out.below B6.out);have P6:=Lib.hid (blk_below (blk_below P2.out hb5) q6.2);have Q6:=Lib.hid q6.1;have T6:=Lib.hid (tabs_below hT B6.out);have p6:=cells8 P6.out;have s6:=cells8 Q6.out;have BW6:=Lib.hid (Below.refl (w5.alloc (.cells #[.string title,.int .i64 H,.int .i64 W,.slice D3 bl.length k3,.slice D4 ri.length k4,.slice D5 be.length k5,.slice D6 cells.length k6,.slice D7 clues.length k7] 27)).heap.size (w5.alloc (.cells #[.string title,.int .i64 H,.int .i64 W,.slice D3 bl.length k3,.slice D4 ri.length k4,.slice D5 be.length k5,.slice D6 cells.length k6,.slice D7 clues.length k7] 27)));clear R3 R4 R5 R6 R7 C3 C4 C5 C6 C7 kk3 kk4 kk5 kk6 kk7 hb5 q6 B5 p2 P2))
    | (go_at_call 6;go_must (refine (draw_ok T6.out hQ6.out hz0.out hp.out).mono ?_;rw [hA.out];rintro e w7 ⟨vA,rfl,RL,hb⟩;obtain ⟨gl,cl,rfl⟩:=R_form_n RL (n:=lA.length) rfl hl1;have glt:=Kd.R_lt RL gl rfl;have gge:=Kd.R_base RL gl rfl;have RL7:=Lib.hid RL;have BW7:=Lib.hid (BW6.out.trans (hb.mono BW6.out.size));have p7:=cells8 (blk_below P6.out BW7.out);have s7:=cells8 (blk_below Q6.out BW7.out);clear RL;clear hb p6 s6 BW6))
    | (go_at_call 7;go_must (refine (draw2_ok (hP6.out.below BW7.out) hz0.out hp.out).mono ?_;rw [hA.out];rintro e w8 ⟨vW,rfl,RW,hb⟩;obtain ⟨AW,cW,rfl⟩:=Kd.R_slice RW;have RW8:=Lib.hid RW;have RL8:=Lib.hid (Kd.R_below RL7.out hb);have BW8:=Lib.hid (BW7.out.trans (hb.mono BW7.out.size));have p8:=cells8 (blk_below P6.out BW8.out);have s8:=cells8 (blk_below Q6.out BW8.out);clear RW RL7;clear hb p7 s7 BW7))
    | (go_at_call 8;go_must (refine (page_calls (tabs_below T6.out BW8.out) (hQ6.out.below BW8.out) hz0.out).mono ?_;rw [hp.out];rintro e w9 ⟨rfl,hb⟩;have RW9:=Lib.hid (Kd.R_below RW8.out hb);have RL9:=Lib.hid (Kd.R_below RL8.out hb);have BW9:=Lib.hid (BW8.out.trans (hb.mono BW8.out.size));have p9:=cells8 (blk_below P6.out BW9.out);have s9:=cells8 (blk_below Q6.out BW9.out);clear RW8 RL8;clear hb p8 s8 BW8))
    | (go_at_call 9;go_must (refine (rebusref01_SameTexts.calls hl3 (Kd.R_reads' RL9.out).2.2 (Kd.R_reads' RW9.out).2.2).mono ?_;rintro e w10 ⟨rfl,hb⟩;have RW10:=Lib.hid (Kd.R_below RW9.out hb);have RL10:=Lib.hid (Kd.R_below RL9.out hb);have BW10:=Lib.hid (BW9.out.trans (hb.mono BW9.out.size));have p10:=cells8 (blk_below P6.out BW10.out);have s10:=cells8 (blk_below Q6.out BW10.out);clear RW9 RL9;clear hb p9 s9 BW9))
    | (go_at_call 10;go_must (refine (rebusref21_Same.calls hs0.out hz0.out (hQ6.out.below BW10.out) (hP6.out.below BW10.out)).mono ?_;rintro e w11 ⟨rfl,hb⟩;have RW11:=Lib.hid (Kd.R_below RW10.out hb);have RL11:=Lib.hid (Kd.R_below RL10.out hb);have BW11:=Lib.hid (BW10.out.trans (hb.mono BW10.out.size));have p11:=cells8 (blk_below P6.out BW11.out);have s11:=cells8 (blk_below Q6.out BW11.out);clear RW10 RL10;clear hb p10 s10 BW10)))
  clear p11 s11
  have RW12:=Lib.hid (Kd.R_mono (Kd.R_bound RW11.out) (ok':=fun k=>k ≠ gl) (fun k hk=>by have:=hk.2.1;omega))
  go_loopw [48] (fun v48 wr=>∃ (m : Nat) (j : Int) (xs : List ByteArray),v48 = .int .i64 j ∧ Hid (j = m ∧ m ≤ lA.length) ∧ Hid (Kd.R Kd.string 9 wr (w5.alloc (.cells #[.string title,.int .i64 H,.int .i64 W,.slice D3 bl.length k3,.slice D4 ri.length k4,.slice D5 be.length k5,.slice D6 cells.length k6,.slice D7 clues.length k7] 27)).heap.size (fun _=>True) (.slice (some ⟨gl,0,none⟩) lA.length cl) xs) ∧ Hid (Kd.R Kd.string 9 wr w7.heap.size (fun k=>k ≠ gl) (.slice AW lA.length cW) lA) ∧ Hid (Below (w5.alloc (.cells #[.string title,.int .i64 H,.int .i64 W,.slice D3 bl.length k3,.slice D4 ri.length k4,.slice D5 be.length k5,.slice D6 cells.length k6,.slice D7 clues.length k7] 27)).heap.size (w5.alloc (.cells #[.string title,.int .i64 H,.int .i64 W,.slice D3 bl.length k3,.slice D4 ri.length k4,.slice D5 be.length k5,.slice D6 cells.length k6,.slice D7 clues.length k7] 27)) wr)) (fun v48 _=>lA.length - (intOf v48).toNat)
  case atStart=>exact ⟨0,0,lA,rfl,Lib.hid ⟨rfl,Nat.zero_le _⟩,RL11,RW12,BW11⟩
  case round =>
    obtain ⟨m,j,xs,rfl,hj,RLr,RWr,BWr⟩:=hrel
    by_cases hlt : m < lA.length
    · have tlt : decide (j < (lA.length : Int)) = true:=decide_eq_true (by have:=hj.out;omega)
      have hj0 : 0 ≤ j:=by have:=hj.out;omega
      have hj1 : j < (lA.length : Int):=by have:=hj.out;omega
      have FC:=Kd.R_celln ByteArray.empty RLr.out j hj0 hj1
      have FZ:=FC.2
      replace FC:=FC.1
      have PG:=Kd.R_putg RLr.out j ⟨#[]⟩
      have T1:=Lib.hid PG.1
      have T2:=Lib.hid (Kd.R_grown RWr.out PG.2 (fun k hk e=>hk (Option.some.inj e)))
      have T3:=Lib.hid (BWr.out.setCell (p:=⟨gl,j.toNat,none⟩) gge (.string ⟨#[]⟩))
      replace hlt:=Lib.hid hlt
      clear PG RLr RWr BWr
      go_wp2
      refine ⟨⟨m + 1,j + 1,_,rfl,Lib.hid ⟨by have:=hj.out;omega,hlt.out⟩,T1,T2,T3⟩,?_⟩
      simp only [intOf];have:=hj.out;have:=hlt.out;omega
    · have tlt : decide (j < (lA.length : Int)) = false:=decide_eq_false (by have:=hj.out;omega)
      have pr:=cells8 (blk_below P6.out BWr.out)
      have sr:=cells8 (blk_below Q6.out BWr.out)
      go_wp2_with (first
        | (go_at_call 6;go_must (refine (draw_ok (tabs_below T6.out BWr.out) (hQ6.out.below BWr.out) hz0.out hp.out).mono ?_;rw [hA.out];rintro e w12 ⟨vB,rfl,RB,hb⟩;obtain ⟨AB,cB,rfl⟩:=Kd.R_slice RB;have RB12:=Lib.hid RB;have RWb:=Lib.hid (Kd.R_below RWr.out hb);have BW12:=Lib.hid (BWr.out.trans (hb.mono BWr.out.size));have p12:=cells8 (blk_below P6.out BW12.out);have s12:=cells8 (blk_below Q6.out BW12.out);clear RB;clear hb pr sr))
        | (go_at_call 9;go_must (refine (rebusref01_SameTexts.calls hl3 (Kd.R_reads' RB12.out).2.2 (Kd.R_reads' RWb.out).2.2).mono ?_;rintro e w13 ⟨rfl,hb⟩;have BW13:=Lib.hid (BW12.out.trans (hb.mono BW12.out.size));have p13:=cells8 (blk_below P6.out BW13.out);have s13:=cells8 (blk_below Q6.out BW13.out);clear hb p12 s12 BW12)))
      go_ret
      exact ⟨rfl,B6.out.trans (BW13.out.mono B6.out.size)⟩
theorem PageDraws.calls {title : ByteArray} {H W : Int} {A2 : Option Addr} {c2 : Nat} {bl : List Bool} {A3 : Option Addr} {c3 : Nat} {ri : List Bool} {A4 : Option Addr} {c4 : Nat} {be : List Bool} {A5 : Option Addr} {c5 : Nat} {cells : List ByteArray} {A6 : Option Addr} {c6 : Nat} {clues : List ByteArray} {w : World} (hT : Tabs w) (hP : PuzR A2 c2 bl A3 c3 ri A4 c4 be A5 c5 cells A6 c6 clues w) (hz : PuzS title cells clues) (h1 : bl.length ≤ 1048576) (h2 : ri.length ≤ 1048576) (h3 : be.length ≤ 1048576) :
    Calls Tryz.prog 3 #[.agg #[.string title,.int .i64 H,.int .i64 W,.slice A2 bl.length c2,.slice A3 ri.length c3,.slice A4 be.length c4,.slice A5 cells.length c5,.slice A6 clues.length c6]] w fun e w'=>e = .returned (.bool true) ∧ Below w.heap.size w w':=by
  by_cases hp : pcheck title H W bl ri be cells clues = 0
  · exact draws_ok hT hP hz ⟨h1,h2,h3⟩ hp
  · exact draws_bad hT hP hz ⟨h1,h2,h3⟩ rfl hp
end Go.Proofs.YtkblbggmpahljaaGreatDoor.Q
end
section
namespace Go.Proofs.YtkblbggmpahljaaGreatDoor.draws
open Go.ChangeShapes Go.WideShapes Go.ChangeAt Go.RowKit Go.Joins
open Go.Proofs.YtkblbggmpahljaaGreatDoor.Q Go.Proofs.YtkblbggmpahljaaGreatDoorS
set_option maxRecDepth 100000
def wArgs : Array Value:=#[.agg #[.string ⟨#[]⟩,.int .i64 0,.int .i64 0,.slice none 0 0,.slice none 0 0,.slice none 0 0,.slice none 0 0,.slice none 0 0]]
def wData {H : Type} : List (DataW H):=[.agg [.lit (.string []),.agg [.lit (.int .i64 0),.lit (.int .i64 0),.nil,.nil,.nil],.nil,.nil]]
theorem laid_met (os : Os) : laidMet Tryz.prog Rows.pageDrawsUptoRow.laid ((laidWorld os).forCall (fun _ _=>0) ⟨#[],wArgs,[]⟩).memory :=
  laidMet_of_run' 8 (by kernel_rfl) (by kernel_rfl)
theorem reads (os : Os) {H : Type} (enc : TypeId × Value → H) : ∃ places,DataW.whole enc Tryz.prog ((laidWorld os).forCall (fun _ _=>0) ⟨#[],wArgs,[]⟩).memory Tryz.f3.params.toList Rows.pageDrawsSpec.vars false wArgs.toList 8 = some (wData,[],places) :=
  ⟨[],by kernel_rfl⟩
theorem contract (H : Type) (enc : TypeId × Value → H) (W : World) (base : Nat) (args : Array Value) (ds gs : List (DataW H)) (before : List MemPlace)
    (hval : ∀ (j : Nat) t v,Tryz.f3.params[j]? = some t → args[j]? = some v → Value.okWide Tryz.prog W .any base t v)
    (hW : DataW.Whole enc Tryz.prog Tryz.f3.params.toList Rows.pageDrawsSpec.vars false W args.toList ds gs before) (hL : laidMetH Tryz.prog Rows.pageDrawsUptoRow.laid W) (hSh : W.ShapedOpen Tryz.prog) (hk : Rows.uptoSmall H (ds ++ gs) = true) :
    Calls Tryz.prog 3 args W fun e W'=>∃ v,e = .returned v ∧ Rows.pageDrawsSpec.post enc Tryz.prog Tryz.f3 false true false false W args v W':=by
  have hW':=hW
  obtain ⟨p,q,hA0,hV,rfl,hfz,hnd⟩:=hW
  have hA : DataW.TrodAll enc Tryz.prog W 0 (fun _=>true) true Tryz.f3.params.toList args.toList ds p:=hA0
  rw [Tryz.params3] at hA hval
  obtain ⟨v0,d0,rfl,rfl,h0⟩:=trodAll_one hA
  obtain ⟨rfl,rfl⟩:=trodVars_none hV
  simp only [List.append_nil] at hk
  have hb:=bulk_bound hk
  simp only [Rows.uptoBulkAll] at hb
  obtain ⟨title,Hh,Ww,A2,c2,bl,A3,c3,ri,A4,c4,be,A5,c5,cells,A6,c6,clues,rfl,hP,hz⟩:=open_puzzle (hval 0 27 v0 rfl rfl) h0
  refine (PageDraws.calls (tabs_of_laid hL hSh) hP (hz (by omega)).1 (hz (by omega)).2.1 (hz (by omega)).2.2.1 (hz (by omega)).2.2.2).mono fun e W' ⟨he,hbel⟩=>?_
  subst he
  have hlt : ∀ x ∈ p,x.block < W.heap.size:=fun x hx=>hW'.lt x (by simpa using hx)
  refine ⟨_,rfl,post_of_below (pa:=p) (pv:=[]) hW' (fun _ _ _=>trodAll_mk1 (shut_bool Tryz.underlying4 true)) (fun sp hsp=>?_) (fun _ _=>rfl) (by simp) hbel (ok_one (by kernel_rfl) rfl (okWide_bool_mk Tryz.underlying4 _))⟩
  have stay : ∀ {t : TypeId} {v : Value} {d : DataW H} {ps : List MemPlace},Tryz.prog.readableRec t = true → t < Tryz.prog.types.size → DataW.Trod enc Tryz.prog W 0 (fun _=>true) true t v d ps → (∀ x ∈ ps,x ∈ p) → DataW.Trod enc Tryz.prog W' 0 sp true t v d ps:=fun hr hrow h hin =>
    WideElems.Trod_stays laid_out hr hrow h (fun x hx=>hbel.same (hlt x (hin x hx))) (fun x hx=>hsp x (by simpa using hin x hx))
  exact trodAll_mk1 (stay (by kernel_rfl) (of_decide_eq_true (by kernel_rfl)) h0 (fun x hx=>hx))
theorem liftedUpto (os : Os) (started : os.Started) (H : Type) (enc : TypeId × Value → H) (F : Stop.Interp) :
    ReturnsInHanded {} Tryz.checked os 3 .any ((Rows.OpenSpec.upto Rows.pageDrawsSpec).preRow enc Tryz.prog Tryz.f3 Rows.pageDrawsUptoRow.domain false Rows.pageDrawsUptoRow.laid) (((Rows.OpenSpec.upto Rows.pageDrawsSpec).at F).post enc Tryz.prog Tryz.f3 false true false false):=by
  obtain ⟨places,hx⟩:=reads os enc
  refine returnsInHanded_of_row (C:=Tryz.checked) (s:=Rows.OpenSpec.upto Rows.pageDrawsSpec) own_knob started (by kernel_rfl) Tryz.func3
    (witness_row_atRef (enc:=enc) (C:=Tryz.checked) false (laidWorld os) wArgs rfl (by kernel_rfl) (by kernel_rfl) (by kernel_rfl)
      (OpenSpec.preRow_of_cond 8 hx (by kernel_rfl) (fun k hk=>by cases hk;kernel_rfl) (by kernel_rfl) (laid_met os))) ?_
  intro W base args ds gs before hval hW _ hcond _ hL hSh _
  exact contract H enc W base args ds gs before hval hW hL hSh (hcond _ rfl)
theorem saidUpto : Rows.PageDrawsUptoSaid :=
  OpenClaim.holds_of_cond 3 Tryz.f3 rfl rfl rfl rfl rfl rfl rfl ⟨rfl,rfl,rfl,rfl,rfl⟩ rfl rfl rfl rfl rfl (by kernel_rfl) Tryz.func3 (by kernel_rfl)
    (of_decide_eq_true (by kernel_rfl)) (by unfold Func.isWrapper;first | (rw [if_pos (by decide +kernel)];kernel_rfl) | (rw [if_neg (by decide +kernel)];exact ⟨rfl,rfl⟩))
    (fun os started H enc _ F=>by rw [OpenClaim.pre_eq_preRow];exact liftedUpto os started H enc F)
theorem plain (f : FuncId) (fn : Func) (hf : Tryz.pinned.checked.prog.funcNamed "rebus/rebuslaw21.PageDraws" = some f) (hfn : Tryz.pinned.checked.prog.funcs[f]? = some fn) :
    false = Tryz.pinned.checked.prog.looks [] ∧ ∀ (j : Nat) t,fn.params[j]? = some t → Tryz.pinned.checked.prog.wantsStandIn t = false:=by
  obtain rfl : f = 3:=Option.some.inj ((show Tryz.prog.funcNamed "rebus/rebuslaw21.PageDraws" = some 3 by kernel_rfl).symm.trans hf) |>.symm
  obtain rfl : fn = Tryz.f3:=(Option.some.inj (Tryz.func3.symm.trans hfn)).symm
  refine ⟨by kernel_rfl,fun j t ht=>?_⟩
  rw [Tryz.params3] at ht
  have hm : t ∈ #[27]:=Array.mem_of_getElem? ht
  simp only [List.mem_toArray,List.mem_cons,List.not_mem_nil,or_false] at hm
  rcases hm with rfl
  · exact (show Tryz.prog.wantsStandIn 27 = false by kernel_rfl)
theorem cardUpto : Rows.PageDrawsUptoCardSaid :=
  Claim7.holds_tied_plain_at .later [] _ _ _ _ saidUpto (fun _ h=>by cases h) (by kernel_rfl) (fun _ h=>by cases h) pageDrawsUpto_row_tie rfl ⟨rfl,rfl⟩ (by kernel_rfl) rfl plain (by kernel_rfl)
end Go.Proofs.YtkblbggmpahljaaGreatDoor.draws
end
#print axioms Go.Proofs.YtkblbggmpahljaaGreatDoor.draws.cardUpto
