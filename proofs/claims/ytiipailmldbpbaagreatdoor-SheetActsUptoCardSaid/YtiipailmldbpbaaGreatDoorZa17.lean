/- PART 17 OF A PROOF: Lean functions, and that the program computes them; written by hand and by a program. Not trusted: Lean checks it. -/
import Derived.Test.YtiipailmldbpbaaGreatDoorZa11
import Derived.Test.YtiipailmldbpbaaGreatDoorZa14
import Derived.Test.YtiipailmldbpbaaGreatDoorZa16
set_option linter.unusedVariables false
set_option linter.unusedSimpArgs false
section
namespace Go.Proofs.YtiipailmldbpbaaGreatDoor.Q
open Go.RowKit Go.Proofs.YtiipailmldbpbaaGreatDoorW.PrintWords Go.Proofs.YtiipailmldbpbaaGreatDoorW.PrintLast Go.Proofs.YtiipailmldbpbaaGreatDoorW.PrintMore
set_option linter.unusedVariables false
set_option linter.unusedSimpArgs false
open Go.Proofs.YtiipailmldbpbaaGreatDoorS
theorem PuzR.gridC {A2 : Option Addr} {c2 : Nat} {bl : List Bool} {A3 : Option Addr} {c3 : Nat} {ri : List Bool} {A4 : Option Addr} {c4 : Nat} {be : List Bool} {A5 : Option Addr} {c5 : Nat} {cells : List ByteArray} {A6 : Option Addr} {c6 : Nat} {clues : List ByteArray} {w : World} (h : PuzR A2 c2 bl A3 c3 ri A4 c4 be A5 c5 cells A6 c6 clues w) : GridC A2 c2 bl A3 c3 ri A4 c4 be w := ⟨h.r2, h.r3, h.r4⟩
theorem rebusref21_Line.calls2 (s : ByteArray) (hz : s.size ≤ 1048576) (w : World) : Calls Tryz.prog 64 #[.string s] w fun e w' => e = .returned (.bool (uline s)) ∧ Below w.heap.size w w' := by
  have h := line_eq s hz (2 * s.size + 21) (by omega)
  rw [rline_eq] at h
  exact rebusref21_Line.calls _ _ _ _ h
set_option maxHeartbeats 8000000 in
set_option maxRecDepth 1000000 in
theorem rebusref21_Check.calls {title : ByteArray} {H W : Int} {A2 : Option Addr} {c2 : Nat} {bl : List Bool} {A3 : Option Addr} {c3 : Nat} {ri : List Bool} {A4 : Option Addr} {c4 : Nat} {be : List Bool} {A5 : Option Addr} {c5 : Nat} {cells : List ByteArray} {A6 : Option Addr} {c6 : Nat} {clues : List ByteArray} {w : World} (hP : PuzR A2 c2 bl A3 c3 ri A4 c4 be A5 c5 cells A6 c6 clues w) (hz : PuzS title cells clues) :
    Calls Tryz.prog 43 #[.agg #[.string title, .int .i64 H, .int .i64 W, .slice A2 bl.length c2, .slice A3 ri.length c3, .slice A4 be.length c4, .slice A5 cells.length c5, .slice A6 clues.length c6]] w fun e w' => e = .returned (.int .i64 (pcheck title H W bl ri be cells clues)) ∧ Below w.heap.size w w' := by
  have hx := box1 w (.cells #[.string title, .int .i64 H, .int .i64 W, .slice A2 bl.length c2, .slice A3 ri.length c3, .slice A4 be.length c4, .slice A5 cells.length c5, .slice A6 clues.length c6] 27)
  replace hx := Lib.hid hx
  have hu27 := Tryz.underlying27
  have hu24 := Tryz.underlying24
  by_cases hg : gcheck H W bl ri be = 0
  · have hd := Dims.of hg
    obtain ⟨n, hn⟩ : ∃ n, H * W = n := ⟨_, rfl⟩
    have hn1 : n ≤ 256 := by rw [← hn]; exact hd.n
    have hbn : (bl.length : Int) = n := by rw [← hn]; exact hd.b
    have hwn : wrap64 (H * W) = n := by rw [hn]; exact w64 (by omega) (by omega)
    clear hn hd
    replace hz := Lib.hid hz
    by_cases hs : cells.length = bl.length
    · have t1 : ((cells.length : Int) != n) = false := by rw [hs, hbn]; simp
      have hv : pcheck title H W bl ri be cells clues = (if pbad bl cells cells.length 0 then 33 else if clues.length = (slotsOf H W bl ri be).length then (if (clues ++ [title]).all uline then 0 else 221) else 160) := by unfold pcheck; rw [if_pos hg, if_pos hs]
      rw [hv]
      clear hv
      obtain ⟨V, hV0⟩ : ∃ V, (if pbad bl cells cells.length 0 then (33 : Int) else if clues.length = (slotsOf H W bl ri be).length then (if (clues ++ [title]).all uline then 0 else 221) else 160) = V := ⟨_, rfl⟩
      rw [hV0]
      replace hV0 := Lib.hid hV0
      replace hg := Lib.hid hg
      replace hs := Lib.hid hs
      go_enter Tryz.func43, Tryz.ntmps43
      go_wp2_with (first
        | (go_at_call 52; go_must (refine (rebusref05_Check.calls (hP.below hx.out.2).gridC).mono ?_; rintro e w3 ⟨rfl, hb3⟩; rw [hg.out]; have hB3 := Lib.hid (below_step hx.out.2 hb3); have bP := Lib.hid (blk_below hx.out.1 hb3); have p3 := cells8 bP.out; clear hb3)))
      rw [hwn]
      go_loopw [4] (fun v4 wr => ∃ (i : Nat) (q : Int), v4 = .int .i64 q ∧ Hid (q = i ∧ i ≤ cells.length) ∧ Hid (pbad bl cells cells.length 0 = pbad bl cells (cells.length - i) i) ∧ Hid (wr.heap[w.heap.size]? = some (.cells #[.string title, .int .i64 H, .int .i64 W, .slice A2 bl.length c2, .slice A3 ri.length c3, .slice A4 be.length c4, .slice A5 cells.length c5, .slice A6 clues.length c6] 27 (0, 0))) ∧ Hid (Below w.heap.size w wr)) (fun v4 _ => cells.length - (intOf v4).toNat)
      case atStart => exact ⟨0, 0, rfl, Lib.hid ⟨rfl, Nat.zero_le _⟩, Lib.hid rfl, bP, hB3⟩
      case round =>
        clear hB3 bP p3 hwn t1 hbn hn1
        obtain ⟨i, q, rfl, hq, hpb, bP, hB⟩ := hrel
        have p4 := cells8 bP.out
        have y4 := blk_lt bP.out
        by_cases hlt : i < cells.length
        · have hq0 : 0 ≤ q := by have := hq.out; omega
          have hq1 : q < (cells.length : Int) := by have := hq.out; omega
          have hq2 : q < (bl.length : Int) := by have := hs.out; omega
          have hq3 : q < 1048576 := by have := hz.out.l; omega
          obtain ⟨ad, eA, zx⟩ := Kd.at_string (hP.below hB.out).r5 q hq0 hq1
          obtain ⟨ad2, eA2, zb⟩ := Kd.at_bool (hP.below hB.out).r2 q hq0 hq2
          cases eA
          cases eA2
          obtain ⟨xa, hxa⟩ : ∃ x, rdOf ByteArray.empty cells q = x := ⟨_, rfl⟩
          obtain ⟨bb, hbb⟩ : ∃ x, rdOf false bl q = x := ⟨_, rfl⟩
          have hxs : xa.size ≤ 1048576 := by rw [← hxa, hq.out.1]; exact hz.out.s.rd hlt
          have hst := pbad_step (bl := bl) (cells := cells) hlt
          have e1 : pbad1 bl cells i = (!xa.toList.isEmpty && (bb || !uletter xa)) := by unfold pbad1; rw [← hq.out.1, hxa, hbb]
          rw [e1] at hst
          rw [hxa] at zx
          rw [hbb] at zb
          clear hxa hbb e1
          by_cases hne : xa.toList = []
          · have te : xa.toList.isEmpty = true := by rw [hne]; rfl
            rw [te] at hst
            have hE : pbad bl cells cells.length 0 = pbad bl cells (cells.length - (i + 1)) (i + 1) := by rw [hpb.out, hst]; rfl
            replace hE := Lib.hid hE
            replace hlt := Lib.hid hlt
            clear hst hne hpb
            go_wp2
            refine ⟨⟨i + 1, q + 1, rfl, Lib.hid ⟨by have := hq.out; omega, hlt.out⟩, hE, bP, hB⟩, ?_⟩
            simp only [intOf]; have := hq.out; have := hlt.out; omega
          · have te : xa.toList.isEmpty = false := toList_nil.2 hne
            rw [te] at hst
            clear hne
            cases bb with
            | true =>
              have hE : pbad bl cells cells.length 0 = true := by rw [hpb.out, hst]; rfl
              rw [hE] at hpb
              replace hE := Lib.hid hE
              clear hst hpb
              go_wp2
              go_ret
              exact ⟨by rw [← hV0.out, hE.out]; rfl, hB.out⟩
            | false =>
              cases hle : uletter xa with
              | false =>
                have hE : pbad bl cells cells.length 0 = true := by rw [hpb.out, hst, hle]; rfl
                replace hE := Lib.hid hE
                replace hle := Lib.hid hle
                clear hst hpb
                go_wp2_with (first
                  | (go_at_call 44; go_must (refine (rebusref21_Letter.calls xa hxs _).mono ?_; rintro e w5 ⟨rfl, hb5⟩; rw [hle.out])))
                go_ret
                exact ⟨by rw [← hV0.out, hE.out]; rfl, below_step hB.out hb5⟩
              | true =>
                have hE : pbad bl cells cells.length 0 = pbad bl cells (cells.length - (i + 1)) (i + 1) := by rw [hpb.out, hst, hle]; rfl
                replace hE := Lib.hid hE
                replace hle := Lib.hid hle
                replace hlt := Lib.hid hlt
                clear hst hpb
                go_wp2_with (first
                  | (go_at_call 44; go_must (refine (rebusref21_Letter.calls xa hxs _).mono ?_; rintro e w5 ⟨rfl, hb5⟩; rw [hle.out])))
                refine ⟨⟨i + 1, q + 1, rfl, Lib.hid ⟨by have := hq.out; omega, hlt.out⟩, hE, Lib.hid (blk_below bP.out hb5), Lib.hid (below_step hB.out hb5)⟩, ?_⟩
                simp only [intOf]; have := hq.out; have := hlt.out; omega
        · have hge : ¬ q < (cells.length : Int) := by have := hq.out; omega
          have hE : pbad bl cells cells.length 0 = false := by rw [hpb.out, show cells.length - i = 0 by have := hq.out; omega]; rfl
          clear hpb
          obtain ⟨L, hL⟩ : ∃ L, slotsOf H W bl ri be = L := ⟨_, rfl⟩
          replace hE := Lib.hid hE
          replace hL := Lib.hid hL
          obtain ⟨q0, q1, q2, q3, q4, q5, q6, q7⟩ := p4
          go_wp2
          refine wp_region_noPanic ?_
          refine wp_region_held_drew (S := (fun w' => w'.cell? ⟨w.heap.size, 1, none⟩ = some (.int .i64 H) ∧ w'.cell? ⟨w.heap.size, 2, none⟩ = some (.int .i64 W) ∧ w'.cell? ⟨w.heap.size, 3, none⟩ = some (.slice A2 bl.length c2) ∧ w'.cell? ⟨w.heap.size, 4, none⟩ = some (.slice A3 ri.length c3) ∧ w'.cell? ⟨w.heap.size, 5, none⟩ = some (.slice A4 be.length c4) ∧ w'.cell? ⟨w.heap.size, 7, none⟩ = some (.slice A6 clues.length c6))) (by kernel_rfl) ?s1 (fun hHeld => ?_)
          case s1 => ((try dsimp only); go_keep)
          refine wpAnyH_take (i := 0) (oi := ?q0oi) (v := ?q0v) ?q0ho ?q0k1 ?q0k2 ?q0k3 (fun _ _ _ h => h) (Or.inl ⟨?q0kw, ?q0hy⟩) hHeld ?q0rest
          case q0ho => exact at_ops0 _ _
          case q0k1 => kernel_rfl
          case q0k2 => kernel_rfl
          case q0k3 => kernel_rfl
          case q0kw => rfl
          case q0hy => (intro w9 hS9; (try dsimp only at hS9); go_simp; try with_reducible rfl)
          try simp only [Act.put, List.setIfInBounds_toArray, List.set_cons_zero, List.set_cons_succ]
          refine wpAnyH_take (i := 1) (oi := ?q1oi) (v := ?q1v) ?q1ho ?q1k1 ?q1k2 ?q1k3 (fun _ _ _ h => h) (Or.inl ⟨?q1kw, ?q1hy⟩) hHeld ?q1rest
          case q1ho => exact at_ops1 _ _ _
          case q1k1 => kernel_rfl
          case q1k2 => kernel_rfl
          case q1k3 => kernel_rfl
          case q1kw => rfl
          case q1hy => (intro w9 hS9; (try dsimp only at hS9); go_simp; try with_reducible rfl)
          try simp only [Act.put, List.setIfInBounds_toArray, List.set_cons_zero, List.set_cons_succ]
          refine wpAnyH_take (i := 2) (oi := ?q2oi) (v := ?q2v) ?q2ho ?q2k1 ?q2k2 ?q2k3 (fun _ _ _ h => h) (Or.inl ⟨?q2kw, ?q2hy⟩) hHeld ?q2rest
          case q2ho => exact at_ops2 _ _ _ _
          case q2k1 => kernel_rfl
          case q2k2 => kernel_rfl
          case q2k3 => kernel_rfl
          case q2kw => rfl
          case q2hy => (intro w9 hS9; (try dsimp only at hS9); go_simp; try with_reducible rfl)
          try simp only [Act.put, List.setIfInBounds_toArray, List.set_cons_zero, List.set_cons_succ]
          refine wpAnyH_take (i := 3) (oi := ?q3oi) (v := ?q3v) ?q3ho ?q3k1 ?q3k2 ?q3k3 (fun _ _ _ h => h) (Or.inl ⟨?q3kw, ?q3hy⟩) hHeld ?q3rest
          case q3ho => exact at_ops3 _ _ _ _ _
          case q3k1 => kernel_rfl
          case q3k2 => kernel_rfl
          case q3k3 => kernel_rfl
          case q3kw => rfl
          case q3hy => (intro w9 hS9; (try dsimp only at hS9); go_simp; try with_reducible rfl)
          try simp only [Act.put, List.setIfInBounds_toArray, List.set_cons_zero, List.set_cons_succ]
          refine wpAnyH_take (i := 4) (oi := ?q4oi) (v := ?q4v) ?q4ho ?q4k1 ?q4k2 ?q4k3 (fun _ _ _ h => h) (Or.inl ⟨?q4kw, ?q4hy⟩) hHeld ?q4rest
          case q4ho => exact at_ops4 _ _ _ _ _ _
          case q4k1 => kernel_rfl
          case q4k2 => kernel_rfl
          case q4k3 => kernel_rfl
          case q4kw => rfl
          case q4hy => (intro w9 hS9; (try dsimp only at hS9); go_simp; try with_reducible rfl)
          try simp only [Act.put, List.setIfInBounds_toArray, List.set_cons_zero, List.set_cons_succ]
          refine wpAnyH_ready (rs := [5]) (by kernel_rfl) (by simp) ?_
          refine AllReadyH.cons (at_ops5 _ _ _ _ _ _ _) (fun K hK => ?_) AllReadyH.nil
          go_simp
          (go_at_call 51; refine (rebusref07_List.calls (hP.below (below_drew hB.out)).gridC).mono ?_; rintro e w6 ⟨vL, rfl, hLr, hbL⟩; rw [hL.out] at hLr; obtain ⟨AL, cL, rfl⟩ := Kd.S_slice hLr)
          refine hK.out _ _ ?r5 (fun hHeld => ?_)
          case r5 => exact ⟨pw_cell_below hbL q1, pw_cell_below hbL q2, pw_cell_below hbL q3, pw_cell_below hbL q4, pw_cell_below hbL q5, pw_cell_below hbL q7⟩
          clear hK K
          try simp only [Act.put, List.setIfInBounds_toArray, List.set_cons_zero, List.set_cons_succ]
          refine wpAnyH_take (i := 6) (oi := ?q6oi) (v := ?q6v) ?q6ho ?q6k1 ?q6k2 ?q6k3 (fun _ _ _ h => h) (Or.inl ⟨?q6kw, ?q6hy⟩) hHeld ?q6rest
          case q6ho => exact at_ops6 _ _ _ _ _ _ _ _
          case q6k1 => kernel_rfl
          case q6k2 => kernel_rfl
          case q6k3 => kernel_rfl
          case q6kw => rfl
          case q6hy => (intro w9 hS9; (try dsimp only at hS9); go_simp; try with_reducible rfl)
          try simp only [Act.put, List.setIfInBounds_toArray, List.set_cons_zero, List.set_cons_succ]
          refine wpAnyH_take (i := 7) (oi := ?q7oi) (v := ?q7v) ?q7ho ?q7k1 ?q7k2 ?q7k3 (fun _ _ _ h => h) (Or.inl ⟨?q7kw, ?q7hy⟩) hHeld ?q7rest
          case q7ho => exact at_ops7 _ _ _ _ _ _ _ _ _
          case q7k1 => kernel_rfl
          case q7k2 => kernel_rfl
          case q7k3 => kernel_rfl
          case q7kw => rfl
          case q7hy => (intro w9 hS9; (try dsimp only at hS9); go_simp; try with_reducible rfl)
          try simp only [Act.put, List.setIfInBounds_toArray, List.set_cons_zero, List.set_cons_succ]
          refine wpAnyH_done (by kernel_rfl) ?_ _
          refine NoPanic.normal ?_
          clear q0 q1 q2 q3 q4 q5 q6 q7
          have hB6 := Lib.hid (below_step (below_drew hB.out) hbL)
          have bP6 := Lib.hid (blk_below (blk_drew bP.out) hbL)
          have p6 := cells8 bP6.out
          clear hLr hbL
          by_cases hcl : clues.length = L.length
          · have t5 : ((clues.length : Int) != (L.length : Int)) = false := by rw [hcl]; simp
            have t5b : (clues.length != L.length) = false := by rw [hcl]; simp
            have hV : V = (if uline title && clues.all uline then 0 else 221) := by
              rw [← hV0.out, hE.out, hL.out, if_pos hcl, List.all_append]
              simp only [Bool.false_eq_true, if_false, List.all_cons, List.all_nil, Bool.and_true]
              rw [Bool.and_comm]
            replace hV := Lib.hid hV
            replace hcl := Lib.hid hcl
            cases hti : uline title with
            | false =>
              have hV2 := hV.out
              rw [hti] at hV2
              replace hV2 := Lib.hid hV2
              go_wp2_with (first
                | (go_at_call 64; go_must (refine (rebusref21_Line.calls2 title hz.out.t _).mono ?_; rintro e w7 ⟨rfl, hb7⟩; rw [hti])))
              go_ret
              exact ⟨by first | (rw [hV2.out]; done) | (rw [hV2.out]; rfl) | rfl, below_step hB6.out hb7⟩
            | true =>
              have hV2 := hV.out
              rw [hti, Bool.true_and] at hV2
              replace hV2 := Lib.hid hV2
              replace hti := Lib.hid hti
              clear hV
              go_wp2_with (first
                | (go_at_call 64; go_must (refine (rebusref21_Line.calls2 title hz.out.t _).mono ?_; rintro e w7 ⟨rfl, hb7⟩; rw [hti.out]; have hB7 := Lib.hid (below_step hB6.out hb7); have bP7 := Lib.hid (blk_below bP6.out hb7); have p7 := cells8 bP7.out; clear hb7 p6)))
              clear p7
              go_hide hQ
              go_loopw [5] (fun v5 wi => ∃ (j : Nat) (x : Int), v5 = .int .i64 x ∧ Hid (x = j ∧ j ≤ clues.length) ∧ Hid (clues.all uline = (clues.drop j).all uline) ∧ Hid (wi.heap[w.heap.size]? = some (.cells #[.string title, .int .i64 H, .int .i64 W, .slice A2 bl.length c2, .slice A3 ri.length c3, .slice A4 be.length c4, .slice A5 cells.length c5, .slice A6 clues.length c6] 27 (0, 0))) ∧ Hid (Below w.heap.size w wi)) (fun v5 _ => clues.length - (intOf v5).toNat)
              case atStart => exact ⟨0, 0, rfl, Lib.hid ⟨rfl, Nat.zero_le _⟩, Lib.hid (by rw [List.drop_zero]), bP7, hB7⟩
              case round =>
                clear hB7 bP7 hB6 bP6
                obtain ⟨j, x, rfl, hj, ha, bPi, hBi⟩ := hrel
                have pi := cells8 bPi.out
                by_cases hjl : j < clues.length
                · have hx0 : 0 ≤ x := by have := hj.out; omega
                  have hx1 : x < (clues.length : Int) := by have := hj.out; omega
                  have hx3 : x < 1048576 := by have := hz.out.m; omega
                  obtain ⟨ad, eA, zx⟩ := Kd.at_string (hP.below hBi.out).r6 x hx0 hx1
                  cases eA
                  obtain ⟨xa, hxa⟩ : ∃ y, rdOf ByteArray.empty clues x = y := ⟨_, rfl⟩
                  have hxs : xa.size ≤ 1048576 := by rw [← hxa, hj.out.1]; exact hz.out.c.rd hjl
                  have e1 : clues[j] = xa := by rw [← hxa, hj.out.1]; simp [rdOf, List.getD_eq_getElem?_getD, hjl]
                  have ha2 : clues.all uline = (uline xa && (clues.drop (j + 1)).all uline) := by rw [ha.out, List.drop_eq_getElem_cons hjl, List.all_cons, e1]
                  rw [hxa] at zx
                  clear hxa e1 ha
                  cases hli : uline xa with
                  | false =>
                    have hE2 : clues.all uline = false := by rw [ha2, hli]; rfl
                    have hV3 := hV2.out
                    rw [hE2] at hV3
                    replace hV3 := Lib.hid hV3
                    replace hli := Lib.hid hli
                    clear ha2 hE2 hV2
                    go_wp2_with (first
                      | (go_at_call 64; go_must (refine (rebusref21_Line.calls2 xa hxs _).mono ?_; rintro e w8 ⟨rfl, hb8⟩; rw [hli.out])))
                    subst hQ
                    go_wp2
                    go_ret
                    exact ⟨by first | (rw [hV3.out]; done) | (rw [hV3.out]; rfl) | rfl, below_step hBi.out hb8⟩
                  | true =>
                    have hE2 : clues.all uline = (clues.drop (j + 1)).all uline := by rw [ha2, hli]; rfl
                    replace hE2 := Lib.hid hE2
                    replace hli := Lib.hid hli
                    replace hjl := Lib.hid hjl
                    clear ha2
                    go_wp2_with (first
                      | (go_at_call 64; go_must (refine (rebusref21_Line.calls2 xa hxs _).mono ?_; rintro e w8 ⟨rfl, hb8⟩; rw [hli.out])))
                    refine ⟨⟨j + 1, x + 1, rfl, Lib.hid ⟨by have := hj.out; omega, hjl.out⟩, hE2, Lib.hid (blk_below bPi.out hb8), Lib.hid (below_step hBi.out hb8)⟩, ?_⟩
                    simp only [intOf]; have := hj.out; have := hjl.out; omega
                · have hge2 : ¬ x < (clues.length : Int) := by have := hj.out; omega
                  have hE2 : clues.all uline = true := by rw [ha.out, List.drop_of_length_le (by omega)]; rfl
                  have hV3 := hV2.out
                  rw [hE2] at hV3
                  replace hV3 := Lib.hid hV3
                  clear hE2 hV2 ha
                  go_wp2
                  subst hQ
                  go_wp2
                  go_ret
                  exact ⟨by first | (rw [hV3.out]; done) | (rw [hV3.out]; rfl) | rfl, hBi.out⟩
          · have t5 : ((clues.length : Int) != (L.length : Int)) = true := bne_iff_ne.2 (by omega)
            have t5b : (clues.length != L.length) = true := by simpa using hcl
            have hV : V = 160 := by
              rw [← hV0.out, hE.out, hL.out, if_neg hcl]
              rfl
            replace hV := Lib.hid hV
            replace hcl := Lib.hid hcl
            go_wp2
            go_ret
            exact ⟨by first | (rw [hV.out]; done) | (rw [hV.out]; rfl) | rfl, hB6.out⟩
    · have t1 : ((cells.length : Int) != n) = true := bne_iff_ne.2 (by omega)
      have hv : pcheck title H W bl ri be cells clues = 51 := by unfold pcheck; rw [if_pos hg, if_neg hs]
      rw [hv]
      clear hv
      replace hg := Lib.hid hg
      go_enter Tryz.func43, Tryz.ntmps43
      go_wp2_with (first
        | (go_at_call 52; go_must (refine (rebusref05_Check.calls (hP.below hx.out.2).gridC).mono ?_; rintro e w3 ⟨rfl, hb3⟩; rw [hg.out]; have hB3 := Lib.hid (below_step hx.out.2 hb3); have bP := Lib.hid (blk_below hx.out.1 hb3); have p3 := cells8 bP.out; clear hb3)))
      go_ret
      exact ⟨rfl, hB3.out⟩
  · have tg : (gcheck H W bl ri be != 0) = true := bne_iff_ne.2 hg
    have hv : pcheck title H W bl ri be cells clues = gcheck H W bl ri be := by unfold pcheck; rw [if_neg hg]
    rw [hv]
    clear hv hz
    go_enter Tryz.func43, Tryz.ntmps43
    go_wp2_with (first
      | (go_at_call 52; go_must (refine (rebusref05_Check.calls (hP.below hx.out.2).gridC).mono ?_; rintro e w3 ⟨rfl, hb3⟩; have hB3 := Lib.hid (below_step hx.out.2 hb3); have bP := Lib.hid (blk_below hx.out.1 hb3); have p3 := cells8 bP.out; clear hb3)))
    go_ret
    exact ⟨rfl, hB3.out⟩
end Go.Proofs.YtiipailmldbpbaaGreatDoor.Q
end
section
namespace Go.Proofs.YtiipailmldbpbaaGreatDoor.Q
open Go.RowKit Go.Proofs.YtiipailmldbpbaaGreatDoorW.PrintWords Go.Proofs.YtiipailmldbpbaaGreatDoorW.PrintLast Go.Proofs.YtiipailmldbpbaaGreatDoorW.PrintMore
set_option linter.unusedVariables false
set_option linter.unusedSimpArgs false
open Go.Proofs.YtiipailmldbpbaaGreatDoorS
def slacks (cells sc : List ByteArray) : Nat → Nat → Bool
  | 0, _ => false
  | d + 1, i => (!(rdOf ByteArray.empty cells (i : Int)).toList.isEmpty && !decide ((rdOf ByteArray.empty sc (i : Int)).toList = (rdOf ByteArray.empty cells (i : Int)).toList)) || slacks cells sc d (i + 1)
def sdone (title : ByteArray) (H W : Int) (bl ri be : List Bool) (cells clues sc : List ByteArray) (ss : List Bool) (at_ : Int) : Bool := decide (scheck title H W bl ri be cells clues sc ss at_ = 0) && !slacks cells sc cells.length 0
theorem slacks_step {cells sc : List ByteArray} {n i : Nat} (hi : i < n) : slacks cells sc (n - i) i = ((!(rdOf ByteArray.empty cells (i : Int)).toList.isEmpty && !decide ((rdOf ByteArray.empty sc (i : Int)).toList = (rdOf ByteArray.empty cells (i : Int)).toList)) || slacks cells sc (n - (i + 1)) (i + 1)) := by
  obtain ⟨d, hd⟩ : ∃ d, n - i = d + 1 := ⟨n - i - 1, by omega⟩
  rw [hd, show n - (i + 1) = d by omega]
  rfl
theorem firstOpen_step {bl : List Bool} {n i : Nat} (hi : i < n) : firstOpen bl (n - i) i = if rdOf false bl (i : Int) then firstOpen bl (n - (i + 1)) (i + 1) else (i : Int) := by
  obtain ⟨d, hd⟩ : ∃ d, n - i = d + 1 := ⟨n - i - 1, by omega⟩
  rw [hd, show n - (i + 1) = d by omega]
  rfl
theorem firstOpen_lt (bl : List Bool) : ∀ d i, firstOpen bl d i < (i + d : Nat) ∧ -1 ≤ firstOpen bl d i
  | 0, i => ⟨by simp only [firstOpen]; omega, by simp [firstOpen]⟩
  | d + 1, i => by
    have := firstOpen_lt bl d (i + 1)
    simp only [firstOpen]
    split
    · omega
    · omega
set_option maxHeartbeats 8000000 in
set_option maxRecDepth 1000000 in
theorem index_calls {A : Option Addr} {c : Nat} {bl : List Bool} {w : World} (hl : bl.length ≤ 1048576) (h : Kd.C Kd.bool w A bl.length bl) :
    Calls Tryz.prog 29 #[.slice A bl.length c, .bool false] w fun e w' => e = .returned (.int .i64 (firstOpen bl bl.length 0)) ∧ Below w.heap.size w w' := by
  obtain ⟨V, hV⟩ : ∃ V, firstOpen bl bl.length 0 = V := ⟨_, rfl⟩
  rw [hV]
  go_enter Tryz.func29, Tryz.ntmps29
  go_wp2
  go_loopw [8] (fun v8 wr => ∃ (i : Nat) (q : Int), v8 = .int .i64 q ∧ Hid (q = i ∧ i ≤ bl.length) ∧ Hid (V = firstOpen bl (bl.length - i) i) ∧ Hid (Below w.heap.size w wr)) (fun v8 _ => bl.length - (intOf v8).toNat)
  case atStart => exact ⟨0, 0, rfl, Lib.hid ⟨rfl, Nat.zero_le _⟩, Lib.hid hV.symm, Lib.hid (Below.refl _ _)⟩
  case round =>
    clear hV
    obtain ⟨i, q, rfl, hq, hrb, hB⟩ := hrel
    by_cases hlt : i < bl.length
    · have hq0 : 0 ≤ q := by have := hq.out; omega
      have hq1 : q < (bl.length : Int) := by have := hq.out; omega
      have hq3 : q < 1048576 := by omega
      obtain ⟨ad, eA, zx⟩ := Kd.at_bool (Kd.C_below h hB.out) q hq0 hq1
      cases eA
      have hst := firstOpen_step (bl := bl) hlt
      rw [← hq.out.1] at hst
      obtain ⟨xa, hxa⟩ : ∃ x, rdOf false bl q = x := ⟨_, rfl⟩
      rw [hxa] at hst zx
      clear hxa
      cases xa with
      | true =>
        have hE : V = firstOpen bl (bl.length - (i + 1)) (i + 1) := by rw [hrb.out, hst]; rfl
        replace hE := Lib.hid hE
        replace hlt := Lib.hid hlt
        clear hst hrb
        go_wp2
        refine ⟨⟨i + 1, q + 1, rfl, Lib.hid ⟨by have := hq.out; omega, hlt.out⟩, hE, hB⟩, ?_⟩
        simp only [intOf]; have := hq.out; have := hlt.out; omega
      | false =>
        have hE : V = q := by rw [hrb.out, hst]; rfl
        replace hE := Lib.hid hE
        clear hst hrb
        go_wp2
        go_ret
        exact ⟨by rw [hE.out]; rfl, hB.out⟩
    · have hge : ¬ q < (bl.length : Int) := by have := hq.out; omega
      have hE : V = -1 := by rw [hrb.out, show bl.length - i = 0 by have := hq.out; omega]; rfl
      replace hE := Lib.hid hE
      clear hrb
      go_wp2
      go_ret
      exact ⟨by rw [hE.out]; rfl, hB.out⟩
set_option maxHeartbeats 8000000 in
set_option maxRecDepth 1000000 in
theorem start_calls {title : ByteArray} {H W : Int} {A2 : Option Addr} {c2 : Nat} {bl : List Bool} {A3 : Option Addr} {c3 : Nat} {ri : List Bool} {A4 : Option Addr} {c4 : Nat} {be : List Bool} {A5 : Option Addr} {c5 : Nat} {cells : List ByteArray} {A6 : Option Addr} {c6 : Nat} {clues : List ByteArray} {w : World} (hT : Tabs w) (hP : PuzR A2 c2 bl A3 c3 ri A4 c4 be A5 c5 cells A6 c6 clues w) (hz : PuzS title cells clues) :
    Calls Tryz.prog 12 #[.agg #[.string title, .int .i64 H, .int .i64 W, .slice A2 bl.length c2, .slice A3 ri.length c3, .slice A4 be.length c4, .slice A5 cells.length c5, .slice A6 clues.length c6]] w (DoPost w (sstart title H W bl ri be cells clues)) := by
  have hx := box2 w (.cells #[.string title, .int .i64 H, .int .i64 W, .slice A2 bl.length c2, .slice A3 ri.length c3, .slice A4 be.length c4, .slice A5 cells.length c5, .slice A6 clues.length c6] 27) (.cells #[.slice none 0 0, .slice none 0 0, .int .i64 0, .bool false] 29)
  replace hx := Lib.hid hx
  have hu27 := Tryz.underlying27
  have hu24 := Tryz.underlying24
  have hu30 := Tryz.underlying29
  by_cases hp : pcheck title H W bl ri be cells clues = 0
  · have tp : ((0 : Int) != 0) = false := rfl
    have hck := hp
    have hbl : cells.length = bl.length := (pcheck_ok hp).2.1
    obtain ⟨V, hV⟩ : ∃ V, sstart title H W bl ri be cells clues = V := ⟨_, rfl⟩
    have hv : V = if firstOpen bl bl.length 0 < 0 then ([], [], 0, false, 230) else (List.replicate cells.length ⟨#[]⟩, List.replicate cells.length false, firstOpen bl bl.length 0, false, 0) := by rw [← hV]; unfold sstart; rw [if_pos hp]
    rw [hV]
    obtain ⟨l3, hl3⟩ : ∃ l : List ByteArray, l = List.replicate cells.length ⟨#[]⟩ := ⟨_, rfl⟩
    obtain ⟨l7, hl7⟩ : ∃ l : List Bool, l = List.replicate cells.length false := ⟨_, rfl⟩
    rw [← hl3, ← hl7] at hv
    have hfl := firstOpen_lt bl bl.length 0
    obtain ⟨q, hf⟩ : ∃ q, firstOpen bl bl.length 0 = q := ⟨_, rfl⟩
    rw [hf] at hv hfl
    clear hV hp
    replace hf := Lib.hid hf
    replace hck := Lib.hid hck
    replace hl3 := Lib.hid hl3
    replace hl7 := Lib.hid hl7
    by_cases hq : q < 0
    · have tq : decide (q < 0) = true := decide_eq_true hq
      have hE : V = ([], [], 0, false, 230) := by rw [hv, if_pos hq]
      clear hv hq hfl
      replace hE := Lib.hid hE
      replace hbl := Lib.hid hbl
      go_enter Tryz.func12, Tryz.ntmps12
      go_wp2_with (first
        | (go_at_call 28; go_must (refine (page_calls (tabs_below hT hx.out.2.2) (hP.below hx.out.2.2) hz).mono ?_; rintro e w3 ⟨rfl, hb3⟩; rw [hck.out]; have hB3 := Lib.hid (below_step hx.out.2.2 hb3); have bP := Lib.hid (blk_below hx.out.1 hb3); have bT := Lib.hid (blk_below hx.out.2.1 hb3); have p3 := cells8 bP.out; have t3 := cells4 bT.out; have f3 := frozen4 bT.out; have y3 := blk_lt bT.out; clear hb3))
        | (go_at_call 29; go_must (refine (index_calls (by have := hbl.out; have := hz.l; omega) (hP.below hB3.out).r2).mono ?_; rintro e wr ⟨rfl, hb4⟩; rw [hf.out]; have hB := Lib.hid (below_step hB3.out hb4); have bP := Lib.hid (blk_below bP.out hb4); have bT := Lib.hid (blk_below bT.out hb4); have p4 := cells8 bP.out; have t4 := cells4 bT.out; have f4 := frozen4 bT.out; have y4 := blk_lt bT.out; clear hb4 p3 t3 f3 y3))
        | ((with_reducible refine gate_store (t := 29) (p := 2) (v := .tmp 18) rfl ?_); go_must (refine store_event (w1 := put4 wr (w.heap.size + 1) (.slice none 0 0) (.slice none 0 0) (.int .i64 0) (.bool false)) (by rfl) (by rfl) (by rfl) ?hr ?_; (case hr => first | (go_simp; done) | (go_simp; rfl)); intro w5 hw5; have Fw5 := put4_facts bT.out (.slice none 0 0) (.slice none 0 0) (.int .i64 0) (.bool false); rw [← hw5] at Fw5; have hB5 := Lib.hid (Fw5.2.2 _ _ hB.out (by omega)); have bT5 := Lib.hid Fw5.1; clear hw5 Fw5)))
      refine bodyPost_ret (results_ct rfl _ _ (w.heap.size + 1) 29 #[.slice none 0 0, .slice none 0 0, .int .i64 0, .bool false] (0, 0) _ rfl bT5.out Tryz.underlying29 rfl (by kernel_rfl)) rfl ?_
      rw [hE.out]
      exact ⟨_, _, rfl, Kd.R_nil _ _ _ _ _, Kd.R_nil _ _ _ _ _, hB5.out⟩
    · have tq : decide (q < 0) = false := decide_eq_false hq
      have hE : V = (l3, l7, q, false, 0) := by rw [hv, if_neg hq]
      clear hv
      replace hE := Lib.hid hE
      replace hbl := Lib.hid hbl
      go_enter Tryz.func12, Tryz.ntmps12
      go_wp2_with (first
        | (go_at_call 28; go_must (refine (page_calls (tabs_below hT hx.out.2.2) (hP.below hx.out.2.2) hz).mono ?_; rintro e w3 ⟨rfl, hb3⟩; rw [hck.out]; have hB3 := Lib.hid (below_step hx.out.2.2 hb3); have bP := Lib.hid (blk_below hx.out.1 hb3); have bT := Lib.hid (blk_below hx.out.2.1 hb3); have p3 := cells8 bP.out; have t3 := cells4 bT.out; have f3 := frozen4 bT.out; have y3 := blk_lt bT.out; clear hb3))
        | (go_at_call 29; go_must (refine (index_calls (by have := hbl.out; have := hz.l; omega) (hP.below hB3.out).r2).mono ?_; rintro e wr ⟨rfl, hb4⟩; rw [hf.out]; have hB := Lib.hid (below_step hB3.out hb4); have bP := Lib.hid (blk_below bP.out hb4); have bT := Lib.hid (blk_below bT.out hb4); have p4 := cells8 bP.out; have t4 := cells4 bT.out; have f4 := frozen4 bT.out; have y4 := blk_lt bT.out; clear hb4 p3 t3 f3 y3)))
      refine start_ (n := 12) (S := fun w' => w'.cell? ⟨w.heap.size, 6, none⟩ = some (.slice A5 cells.length c5)) (ds := []) #[false, false, false, false, false, false, false, false, false, false, false, false] (by kernel_rfl) rfl rfl ((blk_cell (blk_drew bP.out) 6).trans rfl) (fun hHeld => ?_)
      refine pure_ (i := 0) (N := some 19) (v := ?_) (a' := ?_) #[true, false, false, false, false, false, false, false, false, false, false, false] rfl rfl (by kernel_rfl) (fun _ _ _ h => h) (Or.inl ⟨by rfl, ?_⟩) ?_ ?_
      rotate_left
      · intro w'; go_simp; with_reducible rfl
      rotate_left
      · simp only [Act.put, List.setIfInBounds_toArray, List.set_cons_zero, List.set_cons_succ, i64_w, i32_w]; rfl
      refine pure_ (i := 4) (N := some 23) (v := ?_) (a' := ?_) #[true, false, false, false, true, false, false, false, false, false, false, false] rfl rfl (by kernel_rfl) (fun _ _ _ h => h) (Or.inl ⟨by rfl, ?_⟩) ?_ ?_
      rotate_left
      · intro w'; go_simp; with_reducible rfl
      rotate_left
      · simp only [Act.put, List.setIfInBounds_toArray, List.set_cons_zero, List.set_cons_succ, i64_w, i32_w]; rfl
      refine pure_ (i := 8) (N := some 27) (v := ?_) (a' := ?_) #[true, false, false, false, true, false, false, false, true, false, false, false] rfl rfl (by kernel_rfl) (fun _ _ _ h => h) (Or.inl ⟨by rfl, ?_⟩) ?_ ?_
      rotate_left
      · intro w'; go_simp; with_reducible rfl
      rotate_left
      · simp only [Act.put, List.setIfInBounds_toArray, List.set_cons_zero, List.set_cons_succ, i64_w, i32_w]; rfl
      refine take_ (i := 1) (N := some 20) (v := ?_) (a' := ?_) #[true, true, false, false, true, false, false, false, true, false, false, false] rfl rfl (by kernel_rfl) (fun _ _ _ h => h) (Or.inl ⟨by rfl, ?_⟩) hHeld ?_ ?_
      rotate_left
      · intro w' s0; go_simp; with_reducible rfl
      rotate_left
      · simp only [Act.put, List.setIfInBounds_toArray, List.set_cons_zero, List.set_cons_succ, i64_w, i32_w]; rfl
      refine pure_ (i := 2) (N := some 21) (v := ?_) (a' := ?_) #[true, true, true, false, true, false, false, false, true, false, false, false] rfl rfl (by kernel_rfl) (fun _ _ _ h => h) (Or.inl ⟨by rfl, ?_⟩) ?_ ?_
      rotate_left
      · intro w'; go_simp; with_reducible rfl
      rotate_left
      · simp only [Act.put, List.setIfInBounds_toArray, List.set_cons_zero, List.set_cons_succ, i64_w, i32_w]; rfl
      refine take_ (i := 5) (N := some 24) (v := ?_) (a' := ?_) #[true, true, true, false, true, true, false, false, true, false, false, false] rfl rfl (by kernel_rfl) (fun _ _ _ h => h) (Or.inl ⟨by rfl, ?_⟩) hHeld ?_ ?_
      rotate_left
      · intro w' s0; go_simp; with_reducible rfl
      rotate_left
      · simp only [Act.put, List.setIfInBounds_toArray, List.set_cons_zero, List.set_cons_succ, i64_w, i32_w]; rfl
      refine pure_ (i := 6) (N := some 25) (v := ?_) (a' := ?_) #[true, true, true, false, true, true, true, false, true, false, false, false] rfl rfl (by kernel_rfl) (fun _ _ _ h => h) (Or.inl ⟨by rfl, ?_⟩) ?_ ?_
      rotate_left
      · intro w'; go_simp; with_reducible rfl
      rotate_left
      · simp only [Act.put, List.setIfInBounds_toArray, List.set_cons_zero, List.set_cons_succ, i64_w, i32_w]; rfl
      refine two_ (i := 3) (j := 7) (Ni := some 22) (Nj := some 26) #[true, true, true, true, true, true, true, false, true, false, false, false] #[true, true, true, false, true, true, true, true, true, false, false, false] rfl rfl rfl rfl (by kernel_rfl) (by decide) (by decide) (fun K hK => ?_) (fun K hK => ?_)
      · refine Kd.R_make_step Kd.string _ 9 (by rfl) (N := 22) rfl 25 _ _ rfl (cells.length : Int) rfl rfl Tryz.underlying25 (.string ⟨#[]⟩) 16 str_info rfl (by decide) (by decide) (⟨#[]⟩ : ByteArray) (ok := fun _ => True) (okp := fun _ => True) rfl (fun _ hk => hk) trivial (by omega) (by have := hz.l; omega) (Below.refl _ _) (Nat.le_refl _) ?_
        intro v3 w6 ho3 hb _ _
        rw [Int.toNat_natCast, ← hl3.out] at ho3
        obtain ⟨A39, k39, rfl⟩ := Kd.R_slice ho3
        have R3 := Kd.R_lower ho3 (below_size (below_drew hB.out))
        have bP6 := blk_below (blk_drew bP.out) hb
        have bT6 := blk_below (blk_drew bT.out) hb
        have hB6 := below_step (below_drew hB.out) hb
        clear hb ho3
        refine hK.out _ _ ((blk_cell bP6 6).trans rfl) (fun hHeld => ?_)
        clear hK K
        refine norm_ (a' := ?_) ?_ ?_
        rotate_left
        · show Act.put _ (some 22) _ = _
          simp only [Act.put, List.setIfInBounds_toArray, List.set_cons_zero, List.set_cons_succ, i64_w, i32_w]
          rfl
        refine one_ (i := 7) (N := some 26) #[true, true, true, true, true, true, true, true, true, false, false, false] rfl rfl (by kernel_rfl) (by decide) (fun K hK => ?_)
        refine Kd.R_make_step Kd.bool _ 4 (by rfl) (N := 26) rfl 22 _ _ rfl (cells.length : Int) rfl rfl Tryz.underlying22 (.bool false) 1 bool_info rfl (by decide) (by decide) false (ok := fun _ => True) (okp := fun _ => True) rfl (fun _ hk => hk) trivial (by omega) (by have := hz.l; omega) (Below.refl _ _) (Nat.le_refl _) ?_
        intro v7 w8 ho7 hb _ _
        rw [Int.toNat_natCast, ← hl7.out] at ho7
        obtain ⟨A79, k79, rfl⟩ := Kd.R_slice ho7
        have R7 := Kd.R_lower ho7 (below_size hB6)
        have R38 := Kd.R_below R3 hb
        have R78 := R7
        have bP8 := blk_below bP6 hb
        have bT8 := blk_below bT6 hb
        have hB8 := below_step hB6 hb
        clear hb ho7
        refine hK.out _ _ ((blk_cell bP8 6).trans rfl) (fun hHeld => ?_)
        clear hK K
        refine norm_ (a' := ?_) ?_ ?_
        rotate_left
        · show Act.put _ (some 26) _ = _
          simp only [Act.put, List.setIfInBounds_toArray, List.set_cons_zero, List.set_cons_succ, i64_w, i32_w]
          rfl
        refine pure_ (i := 9) (N := some 28) (v := ?_) (a' := ?_) #[true, true, true, true, true, true, true, true, true, true, false, false] rfl rfl (by kernel_rfl) (fun _ _ _ h => h) (Or.inl ⟨by rfl, ?_⟩) ?_ ?_
        rotate_left
        · intro w'; go_simp; with_reducible rfl
        rotate_left
        · simp only [Act.put, List.setIfInBounds_toArray, List.set_cons_zero, List.set_cons_succ, i64_w, i32_w]; rfl
        refine one_ (i := 10) (N := none) #[true, true, true, true, true, true, true, true, true, true, true, false] rfl rfl (by kernel_rfl) (by decide) (fun K hK => ?_)
        have t8 := cells4 bT8
        have f8 := frozen4 bT8
        have F8 := put4_facts bT8 (.slice A39 l3.length k39) (.slice A79 l7.length k79) (.int .i64 q) (.bool false)
        refine skip_ (w1 := put4 w8 (w.heap.size + 1) (.slice A39 l3.length k39) (.slice A79 l7.length k79) (.int .i64 q) (.bool false)) (by rfl) rfl (by first | (go_simp; done) | (go_simp; rfl)) ?_
        generalize put4 w8 (w.heap.size + 1) (.slice A39 l3.length k39) (.slice A79 l7.length k79) (.int .i64 q) (.bool false) = w9 at F8 ⊢
        have bP9 := (F8.2.1 _ (by omega)).trans bP8
        refine hK.out _ _ ((blk_cell bP9 6).trans rfl) (fun hHeld => ?_)
        clear hK K
        refine pure_ (i := 11) (N := some 3) (v := ?_) (a' := ?_) #[true, true, true, true, true, true, true, true, true, true, true, true] rfl rfl (by kernel_rfl) (fun _ _ _ h => h) (Or.inl ⟨by rfl, ?_⟩) ?_ ?_
        rotate_left
        · intro w'; go_simp; with_reducible rfl
        rotate_left
        · simp only [Act.put, List.setIfInBounds_toArray, List.set_cons_zero, List.set_cons_succ, i64_w, i32_w]; rfl
        refine done_ (by kernel_rfl) ?_
        try go_wp2
        refine bodyPost_ret (results_ct rfl _ _ (w.heap.size + 1) 29 #[.slice A39 l3.length k39, .slice A79 l7.length k79, .int .i64 q, .bool false] (0, 0) _ rfl F8.1 Tryz.underlying29 rfl (by kernel_rfl)) rfl ?_
        rw [hE.out]
        exact ⟨_, _, rfl, R_of_heap R38 bT8 (by decide) F8.2.1, R_of_heap R78 bT8 (by decide) F8.2.1, F8.2.2 _ _ hB8 (by omega)⟩
      · refine Kd.R_make_step Kd.bool _ 4 (by rfl) (N := 26) rfl 22 _ _ rfl (cells.length : Int) rfl rfl Tryz.underlying22 (.bool false) 1 bool_info rfl (by decide) (by decide) false (ok := fun _ => True) (okp := fun _ => True) rfl (fun _ hk => hk) trivial (by omega) (by have := hz.l; omega) (Below.refl _ _) (Nat.le_refl _) ?_
        intro v7 w6 ho7 hb _ _
        rw [Int.toNat_natCast, ← hl7.out] at ho7
        obtain ⟨A79, k79, rfl⟩ := Kd.R_slice ho7
        have R7 := Kd.R_lower ho7 (below_size (below_drew hB.out))
        have bP6 := blk_below (blk_drew bP.out) hb
        have bT6 := blk_below (blk_drew bT.out) hb
        have hB6 := below_step (below_drew hB.out) hb
        clear hb ho7
        refine hK.out _ _ ((blk_cell bP6 6).trans rfl) (fun hHeld => ?_)
        clear hK K
        refine norm_ (a' := ?_) ?_ ?_
        rotate_left
        · show Act.put _ (some 26) _ = _
          simp only [Act.put, List.setIfInBounds_toArray, List.set_cons_zero, List.set_cons_succ, i64_w, i32_w]
          rfl
        refine one_ (i := 3) (N := some 22) #[true, true, true, true, true, true, true, true, true, false, false, false] rfl rfl (by kernel_rfl) (by decide) (fun K hK => ?_)
        refine Kd.R_make_step Kd.string _ 9 (by rfl) (N := 22) rfl 25 _ _ rfl (cells.length : Int) rfl rfl Tryz.underlying25 (.string ⟨#[]⟩) 16 str_info rfl (by decide) (by decide) (⟨#[]⟩ : ByteArray) (ok := fun _ => True) (okp := fun _ => True) rfl (fun _ hk => hk) trivial (by omega) (by have := hz.l; omega) (Below.refl _ _) (Nat.le_refl _) ?_
        intro v3 w8 ho3 hb _ _
        rw [Int.toNat_natCast, ← hl3.out] at ho3
        obtain ⟨A39, k39, rfl⟩ := Kd.R_slice ho3
        have R3 := Kd.R_lower ho3 (below_size hB6)
        have R78 := Kd.R_below R7 hb
        have R38 := R3
        have bP8 := blk_below bP6 hb
        have bT8 := blk_below bT6 hb
        have hB8 := below_step hB6 hb
        clear hb ho3
        refine hK.out _ _ ((blk_cell bP8 6).trans rfl) (fun hHeld => ?_)
        clear hK K
        refine norm_ (a' := ?_) ?_ ?_
        rotate_left
        · show Act.put _ (some 22) _ = _
          simp only [Act.put, List.setIfInBounds_toArray, List.set_cons_zero, List.set_cons_succ, i64_w, i32_w]
          rfl
        refine pure_ (i := 9) (N := some 28) (v := ?_) (a' := ?_) #[true, true, true, true, true, true, true, true, true, true, false, false] rfl rfl (by kernel_rfl) (fun _ _ _ h => h) (Or.inl ⟨by rfl, ?_⟩) ?_ ?_
        rotate_left
        · intro w'; go_simp; with_reducible rfl
        rotate_left
        · simp only [Act.put, List.setIfInBounds_toArray, List.set_cons_zero, List.set_cons_succ, i64_w, i32_w]; rfl
        refine one_ (i := 10) (N := none) #[true, true, true, true, true, true, true, true, true, true, true, false] rfl rfl (by kernel_rfl) (by decide) (fun K hK => ?_)
        have t8 := cells4 bT8
        have f8 := frozen4 bT8
        have F8 := put4_facts bT8 (.slice A39 l3.length k39) (.slice A79 l7.length k79) (.int .i64 q) (.bool false)
        refine skip_ (w1 := put4 w8 (w.heap.size + 1) (.slice A39 l3.length k39) (.slice A79 l7.length k79) (.int .i64 q) (.bool false)) (by rfl) rfl (by first | (go_simp; done) | (go_simp; rfl)) ?_
        generalize put4 w8 (w.heap.size + 1) (.slice A39 l3.length k39) (.slice A79 l7.length k79) (.int .i64 q) (.bool false) = w9 at F8 ⊢
        have bP9 := (F8.2.1 _ (by omega)).trans bP8
        refine hK.out _ _ ((blk_cell bP9 6).trans rfl) (fun hHeld => ?_)
        clear hK K
        refine pure_ (i := 11) (N := some 3) (v := ?_) (a' := ?_) #[true, true, true, true, true, true, true, true, true, true, true, true] rfl rfl (by kernel_rfl) (fun _ _ _ h => h) (Or.inl ⟨by rfl, ?_⟩) ?_ ?_
        rotate_left
        · intro w'; go_simp; with_reducible rfl
        rotate_left
        · simp only [Act.put, List.setIfInBounds_toArray, List.set_cons_zero, List.set_cons_succ, i64_w, i32_w]; rfl
        refine done_ (by kernel_rfl) ?_
        try go_wp2
        refine bodyPost_ret (results_ct rfl _ _ (w.heap.size + 1) 29 #[.slice A39 l3.length k39, .slice A79 l7.length k79, .int .i64 q, .bool false] (0, 0) _ rfl F8.1 Tryz.underlying29 rfl (by kernel_rfl)) rfl ?_
        rw [hE.out]
        exact ⟨_, _, rfl, R_of_heap R38 bT8 (by decide) F8.2.1, R_of_heap R78 bT8 (by decide) F8.2.1, F8.2.2 _ _ hB8 (by omega)⟩
  · have tp : (pcheck title H W bl ri be cells clues != 0) = true := bne_iff_ne.2 hp
    have hv : sstart title H W bl ri be cells clues = ([], [], 0, false, pcheck title H W bl ri be cells clues) := by unfold sstart; rw [if_neg hp]
    rw [hv]
    clear hv hp
    obtain ⟨pe, hpe⟩ : ∃ x, pcheck title H W bl ri be cells clues = x := ⟨_, rfl⟩
    rw [hpe] at tp ⊢
    have hck := Lib.hid hpe
    go_enter Tryz.func12, Tryz.ntmps12
    go_wp2_with (first
      | (go_at_call 28; go_must (refine (page_calls (tabs_below hT hx.out.2.2) (hP.below hx.out.2.2) hz).mono ?_; rintro e w3 ⟨rfl, hb3⟩; rw [hck.out]; have hB3 := Lib.hid (below_step hx.out.2.2 hb3); have bP := Lib.hid (blk_below hx.out.1 hb3); have bT := Lib.hid (blk_below hx.out.2.1 hb3); have p3 := cells8 bP.out; have t3 := cells4 bT.out; have f3 := frozen4 bT.out; have y3 := blk_lt bT.out; clear hb3))
      | ((with_reducible refine gate_store (t := 29) (p := 2) (v := .tmp 10) rfl ?_); go_must (refine store_event (w1 := put4 w3 (w.heap.size + 1) (.slice none 0 0) (.slice none 0 0) (.int .i64 0) (.bool false)) (by rfl) (by rfl) (by rfl) ?hr ?_; (case hr => first | (go_simp; done) | (go_simp; rfl)); intro w5 hw5; have Fw5 := put4_facts bT.out (.slice none 0 0) (.slice none 0 0) (.int .i64 0) (.bool false); rw [← hw5] at Fw5; have hB5 := Lib.hid (Fw5.2.2 _ _ hB3.out (by omega)); have bT5 := Lib.hid Fw5.1; clear hw5 Fw5)))
    refine bodyPost_ret (results_ct rfl _ _ (w.heap.size + 1) 29 #[.slice none 0 0, .slice none 0 0, .int .i64 0, .bool false] (0, 0) _ rfl bT5.out Tryz.underlying29 rfl (by kernel_rfl)) rfl ?_
    exact ⟨_, _, rfl, Kd.R_nil _ _ _ _ _, Kd.R_nil _ _ _ _ _, hB5.out⟩
set_option maxHeartbeats 8000000 in
set_option maxRecDepth 1000000 in
theorem done_calls {title : ByteArray} {H W : Int} {A2 : Option Addr} {c2 : Nat} {bl : List Bool} {A3 : Option Addr} {c3 : Nat} {ri : List Bool} {A4 : Option Addr} {c4 : Nat} {be : List Bool} {A5 : Option Addr} {c5 : Nat} {cells : List ByteArray} {A6 : Option Addr} {c6 : Nat} {clues : List ByteArray} {A7 : Option Addr} {c7 : Nat} {sc : List ByteArray} {A8 : Option Addr} {c8 : Nat} {ss : List Bool} {at_ : Int} {dn : Bool} {w : World} (hT : Tabs w) (hP : PuzR A2 c2 bl A3 c3 ri A4 c4 be A5 c5 cells A6 c6 clues w) (hS : ShtR A7 c7 sc A8 c8 ss w) (hz : PuzS title cells clues) (hzs : Small sc) :
    Calls Tryz.prog 13 #[.agg #[.string title, .int .i64 H, .int .i64 W, .slice A2 bl.length c2, .slice A3 ri.length c3, .slice A4 be.length c4, .slice A5 cells.length c5, .slice A6 clues.length c6], .agg #[.slice A7 sc.length c7, .slice A8 ss.length c8, .int .i64 at_, .bool dn]] w fun e w' => e = .returned (.bool (sdone title H W bl ri be cells clues sc ss at_)) ∧ Below w.heap.size w w' := by
  have hx := box2 w (.cells #[.string title, .int .i64 H, .int .i64 W, .slice A2 bl.length c2, .slice A3 ri.length c3, .slice A4 be.length c4, .slice A5 cells.length c5, .slice A6 clues.length c6] 27) (.cells #[.slice A7 sc.length c7, .slice A8 ss.length c8, .int .i64 at_, .bool dn] 29)
  replace hx := Lib.hid hx
  have hu27 := Tryz.underlying27
  have hu30 := Tryz.underlying29
  by_cases hp : scheck title H W bl ri be cells clues sc ss at_ = 0
  · have tp : ((0 : Int) != 0) = false := rfl
    have hsl : sc.length = cells.length := (scheck_ok hp).2.1
    have hv : sdone title H W bl ri be cells clues sc ss at_ = !slacks cells sc cells.length 0 := by unfold sdone; rw [decide_eq_true hp, Bool.true_and]
    rw [hv]
    clear hv
    obtain ⟨V, hV⟩ : ∃ V, (!slacks cells sc cells.length 0) = V := ⟨_, rfl⟩
    rw [hV]
    replace hV := Lib.hid hV
    replace hsl := Lib.hid hsl
    replace hp := Lib.hid hp
    go_enter Tryz.func13, Tryz.ntmps13
    go_wp2_with (first
      | (go_at_call 14; go_must (refine (check_calls (tabs_below hT hx.out.2.2) (hP.below hx.out.2.2) (hS.below hx.out.2.2) hz hzs).mono ?_; rintro e w3 ⟨rfl, hb3⟩; rw [hp.out]; have hB3 := Lib.hid (below_step hx.out.2.2 hb3); have bP := Lib.hid (blk_below hx.out.1 hb3); have bS := Lib.hid (blk_below hx.out.2.1 hb3); have p3 := cells8 bP.out; have s3 := cells4 bS.out; clear hb3)))
    go_loopw [14] (fun v14 wr => ∃ (i : Nat) (q : Int), v14 = .int .i64 q ∧ Hid (q = i ∧ i ≤ cells.length) ∧ Hid (slacks cells sc cells.length 0 = slacks cells sc (cells.length - i) i) ∧ Hid (wr.heap[w.heap.size]? = some (.cells #[.string title, .int .i64 H, .int .i64 W, .slice A2 bl.length c2, .slice A3 ri.length c3, .slice A4 be.length c4, .slice A5 cells.length c5, .slice A6 clues.length c6] 27 (0, 0))) ∧ Hid (wr.heap[w.heap.size + 1]? = some (.cells #[.slice A7 sc.length c7, .slice A8 ss.length c8, .int .i64 at_, .bool dn] 29 (0, 0))) ∧ Hid (Below w.heap.size w wr)) (fun v14 _ => cells.length - (intOf v14).toNat)
    case atStart => exact ⟨0, 0, rfl, Lib.hid ⟨rfl, Nat.zero_le _⟩, Lib.hid rfl, bP, bS, hB3⟩
    case round =>
      clear hB3 bP bS p3 s3 tp
      obtain ⟨i, q, rfl, hq, hrb, bP, bS, hB⟩ := hrel
      have p4 := cells8 bP.out
      have s4 := cells4 bS.out
      by_cases hlt : i < cells.length
      · have hq0 : 0 ≤ q := by have := hq.out; omega
        have hq1 : q < (cells.length : Int) := by have := hq.out; omega
        have hq2 : q < (sc.length : Int) := by have := hsl.out; omega
        have hq3 : q < 1048576 := by have := hz.l; omega
        obtain ⟨ad, eA, zx⟩ := Kd.at_string (hP.below hB.out).r5 q hq0 hq1
        obtain ⟨ad2, eA2, zb⟩ := Kd.at_string (hS.below hB.out).r7 q hq0 hq2
        cases eA
        cases eA2
        have hst := slacks_step (cells := cells) (sc := sc) hlt
        rw [← hq.out.1] at hst
        obtain ⟨xa, hxa⟩ : ∃ x, rdOf ByteArray.empty cells q = x := ⟨_, rfl⟩
        obtain ⟨xb, hxb⟩ : ∃ x, rdOf ByteArray.empty sc q = x := ⟨_, rfl⟩
        rw [hxa, hxb] at hst
        rw [hxa] at zx
        rw [hxb] at zb
        clear hxa hxb
        by_cases hne : xa.toList = []
        · have te : xa.toList.isEmpty = true := by rw [hne]; rfl
          rw [te] at hst
          have hE : slacks cells sc cells.length 0 = slacks cells sc (cells.length - (i + 1)) (i + 1) := by rw [hrb.out, hst]; rfl
          replace hE := Lib.hid hE
          replace hlt := Lib.hid hlt
          clear hst hrb
          go_wp2
          refine ⟨⟨i + 1, q + 1, rfl, Lib.hid ⟨by have := hq.out; omega, hlt.out⟩, hE, bP, bS, hB⟩, ?_⟩
          simp only [intOf]; have := hq.out; have := hlt.out; omega
        · have te : xa.toList.isEmpty = false := toList_nil.2 hne
          rw [te] at hst
          by_cases hE2 : xb.toList = xa.toList
          · have tE : (xb.toList == xa.toList) = true := by simpa using hE2
            rw [decide_eq_true hE2] at hst
            have hE : slacks cells sc cells.length 0 = slacks cells sc (cells.length - (i + 1)) (i + 1) := by rw [hrb.out, hst]; rfl
            replace hE := Lib.hid hE
            replace hlt := Lib.hid hlt
            clear hst hrb
            go_wp2
            refine ⟨⟨i + 1, q + 1, rfl, Lib.hid ⟨by have := hq.out; omega, hlt.out⟩, hE, bP, bS, hB⟩, ?_⟩
            simp only [intOf]; have := hq.out; have := hlt.out; omega
          · have tE : (xb.toList == xa.toList) = false := by simpa using hE2
            rw [decide_eq_false hE2] at hst
            have hE : slacks cells sc cells.length 0 = true := by rw [hrb.out, hst]; rfl
            replace hE := Lib.hid hE
            clear hst hrb
            go_wp2
            go_ret
            exact ⟨by rw [← hV.out, hE.out]; rfl, hB.out⟩
      · have hge : ¬ q < (cells.length : Int) := by have := hq.out; omega
        have hE : slacks cells sc cells.length 0 = false := by rw [hrb.out, show cells.length - i = 0 by have := hq.out; omega]; rfl
        replace hE := Lib.hid hE
        clear hrb
        go_wp2
        go_ret
        exact ⟨by rw [← hV.out, hE.out]; rfl, hB.out⟩
  · have tp : (scheck title H W bl ri be cells clues sc ss at_ != 0) = true := bne_iff_ne.2 hp
    have hv : sdone title H W bl ri be cells clues sc ss at_ = false := by unfold sdone; rw [decide_eq_false hp, Bool.false_and]
    rw [hv]
    clear hv hp
    obtain ⟨pe, hpe⟩ : ∃ x, scheck title H W bl ri be cells clues sc ss at_ = x := ⟨_, rfl⟩
    rw [hpe] at tp
    replace hpe := Lib.hid hpe
    go_enter Tryz.func13, Tryz.ntmps13
    go_wp2_with (first
      | (go_at_call 14; go_must (refine (check_calls (tabs_below hT hx.out.2.2) (hP.below hx.out.2.2) (hS.below hx.out.2.2) hz hzs).mono ?_; rintro e w3 ⟨rfl, hb3⟩; rw [hpe.out]; have hB3 := Lib.hid (below_step hx.out.2.2 hb3); have bP := Lib.hid (blk_below hx.out.1 hb3); have bS := Lib.hid (blk_below hx.out.2.1 hb3); have p3 := cells8 bP.out; have s3 := cells4 bS.out; clear hb3)))
    go_ret
    exact ⟨rfl, hB3.out⟩
end Go.Proofs.YtiipailmldbpbaaGreatDoor.Q
end
section
namespace Go.Proofs.YtiipailmldbpbaaGreatDoor.Q
open Go.RowKit Go.Proofs.YtiipailmldbpbaaGreatDoorW.PrintWords Go.Proofs.YtiipailmldbpbaaGreatDoorW.PrintLast Go.Proofs.YtiipailmldbpbaaGreatDoorW.PrintMore
set_option linter.unusedVariables false
set_option linter.unusedSimpArgs false
open Go.Proofs.YtiipailmldbpbaaGreatDoorS
def rbad1 (bl : List Bool) (sc : List ByteArray) (ss : List Bool) (i : Nat) : Bool := pbad1 bl sc i || ((rdOf ByteArray.empty sc (i : Int)).toList.isEmpty && rdOf false ss (i : Int))
def rbad (bl : List Bool) (sc : List ByteArray) (ss : List Bool) : Nat → Nat → Bool
  | 0, _ => false
  | d + 1, i => rbad1 bl sc ss i || rbad bl sc ss d (i + 1)
theorem rbad_eq (bl : List Bool) (sc : List ByteArray) (ss : List Bool) : ∀ d i, rbad bl sc ss d i = (pbad bl sc d i || sbad sc ss d i)
  | 0, _ => rfl
  | d + 1, i => by
    simp only [rbad, rbad1, pbad, sbad, rbad_eq bl sc ss d (i + 1)]
    cases pbad1 bl sc i <;> cases pbad bl sc d (i + 1) <;> simp
theorem rbad_step {bl : List Bool} {sc : List ByteArray} {ss : List Bool} {n i : Nat} (hi : i < n) : rbad bl sc ss (n - i) i = (rbad1 bl sc ss i || rbad bl sc ss (n - (i + 1)) (i + 1)) := by
  obtain ⟨d, hd⟩ : ∃ d, n - i = d + 1 := ⟨n - i - 1, by omega⟩
  rw [hd, show n - (i + 1) = d by omega]
  rfl
theorem uline_nil : uline ⟨#[]⟩ = true := by decide +kernel
theorem scheck_ref {title : ByteArray} {H W : Int} {bl ri be : List Bool} {cells clues sc : List ByteArray} {ss : List Bool} {at_ : Int} (hp : pcheck title H W bl ri be cells clues = 0) (h1 : sc.length = cells.length) (h2 : ss.length = cells.length) : scheck title H W bl ri be cells clues sc ss at_ = if rbad bl sc ss sc.length 0 then 33 else if gopen bl at_ then 0 else 230 := by
  obtain ⟨k1, k2, k3, k4, k5⟩ := pcheck_ok hp
  have e : pcheck ⟨#[]⟩ H W bl ri be sc clues = if pbad bl sc sc.length 0 then 33 else 0 := by
    unfold pcheck
    rw [if_pos k1, if_pos (h1.trans k2), if_pos k4]
    have : (clues ++ [(⟨#[]⟩ : ByteArray)]).all uline = true := by
      rw [List.all_append] at k5 ⊢
      simp only [Bool.and_eq_true] at k5 ⊢
      refine ⟨k5.1, ?_⟩
      simp only [List.all_cons, List.all_nil, Bool.and_true]
      exact uline_nil
    rw [this]
    simp
  unfold scheck
  rw [if_pos hp, if_pos ⟨h1, h2⟩, e, rbad_eq]
  cases pbad bl sc sc.length 0 <;> simp
set_option maxHeartbeats 8000000 in
set_option maxRecDepth 1000000 in
theorem rebusref23_Check.calls {title : ByteArray} {H W : Int} {A2 : Option Addr} {c2 : Nat} {bl : List Bool} {A3 : Option Addr} {c3 : Nat} {ri : List Bool} {A4 : Option Addr} {c4 : Nat} {be : List Bool} {A5 : Option Addr} {c5 : Nat} {cells : List ByteArray} {A6 : Option Addr} {c6 : Nat} {clues : List ByteArray} {A7 : Option Addr} {c7 : Nat} {sc : List ByteArray} {A8 : Option Addr} {c8 : Nat} {ss : List Bool} {at_ : Int} {dn : Bool} {w : World} (hP : PuzR A2 c2 bl A3 c3 ri A4 c4 be A5 c5 cells A6 c6 clues w) (hS : ShtR A7 c7 sc A8 c8 ss w) (hz : PuzS title cells clues) (hzs : Small sc) :
    Calls Tryz.prog 21 #[.agg #[.string title, .int .i64 H, .int .i64 W, .slice A2 bl.length c2, .slice A3 ri.length c3, .slice A4 be.length c4, .slice A5 cells.length c5, .slice A6 clues.length c6], .agg #[.slice A7 sc.length c7, .slice A8 ss.length c8, .int .i64 at_, .bool dn]] w fun e w' => e = .returned (.int .i64 (scheck title H W bl ri be cells clues sc ss at_)) ∧ Below w.heap.size w w' := by
  have hx := box2 w (.cells #[.string title, .int .i64 H, .int .i64 W, .slice A2 bl.length c2, .slice A3 ri.length c3, .slice A4 be.length c4, .slice A5 cells.length c5, .slice A6 clues.length c6] 27) (.cells #[.slice A7 sc.length c7, .slice A8 ss.length c8, .int .i64 at_, .bool dn] 29)
  replace hx := Lib.hid hx
  have hu27 := Tryz.underlying27
  have hu24 := Tryz.underlying24
  have hu30 := Tryz.underlying29
  by_cases hp : pcheck title H W bl ri be cells clues = 0
  · have tp : ((0 : Int) != 0) = false := rfl
    have hg := (pcheck_ok hp).1
    have hbl := (pcheck_ok hp).2.1
    by_cases h1 : sc.length = cells.length
    · have t1 : ((sc.length : Int) != (cells.length : Int)) = false := by rw [h1]; simp
      have t1b : (sc.length != cells.length) = false := by rw [h1]; simp
      by_cases h2 : ss.length = cells.length
      · have t2 : ((ss.length : Int) != (cells.length : Int)) = false := by rw [h2]; simp
        have t2b : (ss.length != cells.length) = false := by rw [h2]; simp
        rw [scheck_ref hp h1 h2]
        obtain ⟨V, hV⟩ : ∃ V, (if rbad bl sc ss sc.length 0 then (33 : Int) else if gopen bl at_ then 0 else 230) = V := ⟨_, rfl⟩
        rw [hV]
        replace hV := Lib.hid hV
        replace hg := Lib.hid hg
        replace h1 := Lib.hid h1
        replace h2 := Lib.hid h2
        replace hbl := Lib.hid hbl
        replace hp := Lib.hid hp
        go_enter Tryz.func21, Tryz.ntmps21
        go_wp2_with (first
          | (go_at_call 43; go_must (refine (rebusref21_Check.calls (hP.below hx.out.2.2) hz).mono ?_; rintro e w3 ⟨rfl, hb3⟩; rw [hp.out]; have hB3 := Lib.hid (below_step hx.out.2.2 hb3); have bP := Lib.hid (blk_below hx.out.1 hb3); have bS := Lib.hid (blk_below hx.out.2.1 hb3); have p3 := cells8 bP.out; have s3 := cells4 bS.out; clear hb3)))
        go_loopw [6] (fun v6 wr => ∃ (i : Nat) (q : Int), v6 = .int .i64 q ∧ Hid (q = i ∧ i ≤ sc.length) ∧ Hid (rbad bl sc ss sc.length 0 = rbad bl sc ss (sc.length - i) i) ∧ Hid (wr.heap[w.heap.size]? = some (.cells #[.string title, .int .i64 H, .int .i64 W, .slice A2 bl.length c2, .slice A3 ri.length c3, .slice A4 be.length c4, .slice A5 cells.length c5, .slice A6 clues.length c6] 27 (0, 0))) ∧ Hid (wr.heap[w.heap.size + 1]? = some (.cells #[.slice A7 sc.length c7, .slice A8 ss.length c8, .int .i64 at_, .bool dn] 29 (0, 0))) ∧ Hid (Below w.heap.size w wr)) (fun v6 _ => sc.length - (intOf v6).toNat)
        case atStart => exact ⟨0, 0, rfl, Lib.hid ⟨rfl, Nat.zero_le _⟩, Lib.hid rfl, bP, bS, hB3⟩
        case round =>
          clear hB3 bP bS p3 s3 t1 t1b t2 t2b tp
          obtain ⟨i, q, rfl, hq, hrb, bP, bS, hB⟩ := hrel
          have p4 := cells8 bP.out
          have s4 := cells4 bS.out
          have y4 := blk_lt bP.out
          have z4 := blk_lt bS.out
          by_cases hlt : i < sc.length
          · have hq0 : 0 ≤ q := by have := hq.out; omega
            have hq1 : q < (sc.length : Int) := by have := hq.out; omega
            have hq2 : q < (bl.length : Int) := by have := h1.out; have := hbl.out; omega
            have hq4 : q < (ss.length : Int) := by have := h1.out; have := h2.out; omega
            have hq3 : q < 1048576 := by have := hz.l; have := h1.out; omega
            obtain ⟨ad, eA, zx⟩ := Kd.at_string (hS.below hB.out).r7 q hq0 hq1
            obtain ⟨ad2, eA2, zb⟩ := Kd.at_bool (hP.below hB.out).r2 q hq0 hq2
            obtain ⟨ad3, eA3, zs⟩ := Kd.at_bool (hS.below hB.out).r8 q hq0 hq4
            cases eA
            cases eA2
            cases eA3
            obtain ⟨xa, hxa⟩ : ∃ x, rdOf ByteArray.empty sc q = x := ⟨_, rfl⟩
            obtain ⟨bb, hbb⟩ : ∃ x, rdOf false bl q = x := ⟨_, rfl⟩
            obtain ⟨sb, hsb⟩ : ∃ x, rdOf false ss q = x := ⟨_, rfl⟩
            have hxs : xa.size ≤ 1048576 := by rw [← hxa, hq.out.1]; exact hzs.rd hlt
            have hst := rbad_step (bl := bl) (sc := sc) (ss := ss) hlt
            have e1 : rbad1 bl sc ss i = ((!xa.toList.isEmpty && (bb || !uletter xa)) || (xa.toList.isEmpty && sb)) := by unfold rbad1 pbad1; rw [← hq.out.1, hxa, hbb, hsb]
            rw [e1] at hst
            rw [hxa] at zx
            rw [hbb] at zb
            rw [hsb] at zs
            clear hxa hbb hsb e1
            by_cases hne : xa.toList = []
            · have te : xa.toList.isEmpty = true := by rw [hne]; rfl
              rw [te] at hst
              cases sb with
              | false =>
                have hE : rbad bl sc ss sc.length 0 = rbad bl sc ss (sc.length - (i + 1)) (i + 1) := by rw [hrb.out, hst]; rfl
                replace hE := Lib.hid hE
                replace hlt := Lib.hid hlt
                clear hst hrb
                go_wp2
                refine ⟨⟨i + 1, q + 1, rfl, Lib.hid ⟨by have := hq.out; omega, hlt.out⟩, hE, bP, bS, hB⟩, ?_⟩
                simp only [intOf]; have := hq.out; have := hlt.out; omega
              | true =>
                have hE : rbad bl sc ss sc.length 0 = true := by rw [hrb.out, hst]; rfl
                replace hE := Lib.hid hE
                clear hst hrb
                go_wp2
                go_ret
                exact ⟨by rw [← hV.out, hE.out]; rfl, hB.out⟩
            · have te : xa.toList.isEmpty = false := toList_nil.2 hne
              rw [te] at hst
              cases bb with
              | true =>
                have hE : rbad bl sc ss sc.length 0 = true := by rw [hrb.out, hst]; rfl
                replace hE := Lib.hid hE
                clear hst hrb
                go_wp2
                go_ret
                exact ⟨by rw [← hV.out, hE.out]; rfl, hB.out⟩
              | false =>
                cases hle : uletter xa with
                | false =>
                  have hE : rbad bl sc ss sc.length 0 = true := by rw [hrb.out, hst, hle]; rfl
                  replace hE := Lib.hid hE
                  replace hle := Lib.hid hle
                  clear hst hrb
                  go_wp2_with (first
                    | (go_at_call 44; go_must (refine (rebusref21_Letter.calls xa hxs _).mono ?_; rintro e w5 ⟨rfl, hb5⟩; rw [hle.out])))
                  go_ret
                  exact ⟨by rw [← hV.out, hE.out]; rfl, below_step hB.out hb5⟩
                | true =>
                  have hE : rbad bl sc ss sc.length 0 = rbad bl sc ss (sc.length - (i + 1)) (i + 1) := by rw [hrb.out, hst, hle]; rfl
                  replace hE := Lib.hid hE
                  replace hle := Lib.hid hle
                  replace hlt := Lib.hid hlt
                  clear hst hrb
                  go_wp2_with (first
                    | (go_at_call 44; go_must (refine (rebusref21_Letter.calls xa hxs _).mono ?_; rintro e w5 ⟨rfl, hb5⟩; rw [hle.out]; have zx := pw_cell_below hb5 zx; have s5 := cells4 (blk_below bS.out hb5); clear s4 p4)))
                  refine ⟨⟨i + 1, q + 1, rfl, Lib.hid ⟨by have := hq.out; omega, hlt.out⟩, hE, Lib.hid (blk_below bP.out hb5), Lib.hid (blk_below bS.out hb5), Lib.hid (below_step hB.out hb5)⟩, ?_⟩
                  simp only [intOf]; have := hq.out; have := hlt.out; omega
          · have hge : ¬ q < (sc.length : Int) := by have := hq.out; omega
            have hE : rbad bl sc ss sc.length 0 = false := by rw [hrb.out, show sc.length - i = 0 by have := hq.out; omega]; rfl
            replace hE := Lib.hid hE
            clear hrb
            obtain ⟨q0, q1, q2, q3, q4, q5, q6, q7⟩ := p4
            cases ho : gopen bl at_ with
            | false =>
              have hv : (decide (gcheck H W bl ri be = 0) && gopen bl at_) = false := by rw [ho]; simp
              replace hv := Lib.hid hv
              replace ho := Lib.hid ho
              go_wp2_with (first
                | (go_at_call 25; go_must (refine (rebusref05_Open.calls (hP.below hB.out).gridC).mono ?_; rintro e w6 ⟨rfl, hb6⟩; rw [hv.out])))
              go_ret
              exact ⟨by rw [← hV.out, hE.out, ho.out]; rfl, below_step hB.out hb6⟩
            | true =>
              have hv : (decide (gcheck H W bl ri be = 0) && gopen bl at_) = true := by rw [ho, hg.out]; rfl
              replace hv := Lib.hid hv
              replace ho := Lib.hid ho
              go_wp2_with (first
                | (go_at_call 25; go_must (refine (rebusref05_Open.calls (hP.below hB.out).gridC).mono ?_; rintro e w6 ⟨rfl, hb6⟩; rw [hv.out])))
              go_ret
              exact ⟨by rw [← hV.out, hE.out, ho.out]; rfl, below_step hB.out hb6⟩
      · have t2 : ((ss.length : Int) != (cells.length : Int)) = true := bne_iff_ne.2 (by omega)
        have t2b : (ss.length != cells.length) = true := by simpa using h2
        have hv : scheck title H W bl ri be cells clues sc ss at_ = 51 := by unfold scheck; rw [if_pos hp, if_neg (fun h => h2 h.2)]
        rw [hv]
        clear hv hbl hg h1 h2
        replace hp := Lib.hid hp
        go_enter Tryz.func21, Tryz.ntmps21
        go_wp2_with (first
          | (go_at_call 43; go_must (refine (rebusref21_Check.calls (hP.below hx.out.2.2) hz).mono ?_; rintro e w3 ⟨rfl, hb3⟩; rw [hp.out]; have hB3 := Lib.hid (below_step hx.out.2.2 hb3); have bP := Lib.hid (blk_below hx.out.1 hb3); have bS := Lib.hid (blk_below hx.out.2.1 hb3); have p3 := cells8 bP.out; have s3 := cells4 bS.out; clear hb3)))
        go_ret
        exact ⟨rfl, hB3.out⟩
    · have t1 : ((sc.length : Int) != (cells.length : Int)) = true := bne_iff_ne.2 (by omega)
      have t1b : (sc.length != cells.length) = true := by simpa using h1
      have hv : scheck title H W bl ri be cells clues sc ss at_ = 51 := by unfold scheck; rw [if_pos hp, if_neg (fun h => h1 h.1)]
      rw [hv]
      clear hv hbl hg h1
      replace hp := Lib.hid hp
      go_enter Tryz.func21, Tryz.ntmps21
      go_wp2_with (first
        | (go_at_call 43; go_must (refine (rebusref21_Check.calls (hP.below hx.out.2.2) hz).mono ?_; rintro e w3 ⟨rfl, hb3⟩; rw [hp.out]; have hB3 := Lib.hid (below_step hx.out.2.2 hb3); have bP := Lib.hid (blk_below hx.out.1 hb3); have bS := Lib.hid (blk_below hx.out.2.1 hb3); have p3 := cells8 bP.out; have s3 := cells4 bS.out; clear hb3)))
      go_ret
      exact ⟨rfl, hB3.out⟩
  · have tp : (pcheck title H W bl ri be cells clues != 0) = true := bne_iff_ne.2 hp
    have hv : scheck title H W bl ri be cells clues sc ss at_ = pcheck title H W bl ri be cells clues := by unfold scheck; rw [if_neg hp]
    rw [hv]
    clear hv hp
    obtain ⟨pe, hpe⟩ : ∃ x, pcheck title H W bl ri be cells clues = x := ⟨_, rfl⟩
    rw [hpe] at tp ⊢
    replace hpe := Lib.hid hpe
    go_enter Tryz.func21, Tryz.ntmps21
    go_wp2_with (first
      | (go_at_call 43; go_must (refine (rebusref21_Check.calls (hP.below hx.out.2.2) hz).mono ?_; rintro e w3 ⟨rfl, hb3⟩; rw [hpe.out]; have hB3 := Lib.hid (below_step hx.out.2.2 hb3); have bP := Lib.hid (blk_below hx.out.1 hb3); have bS := Lib.hid (blk_below hx.out.2.1 hb3); have p3 := cells8 bP.out; have s3 := cells4 bS.out; clear hb3)))
    go_ret
    exact ⟨rfl, hB3.out⟩
end Go.Proofs.YtiipailmldbpbaaGreatDoor.Q
end
