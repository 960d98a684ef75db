/-
  SheetSolved, WHERE WHAT IT READS IS OF BULK AT MOST 1048576: IT RETURNS true (typed or revealed by hand, cell by cell, the sheet is done), AND ITS ARGUMENTS READ AS THEY DID. The card ties utf8's two tables to the program's text.
-/
import Derived.Test.YtiipailmldbpbaaDoorCards
import Derived.Test.YtiipailmldbpbaaDoorTie
import Derived.Test.YtiipailmldbpbaaDoorAb15
import Derived.Test.YtiipailmldbpbaaDoorAb16
set_option linter.unusedVariables false
set_option linter.unusedSimpArgs false
section
namespace Go.Proofs.YtiipailmldbpbaaDoor.Q
open Go.RowKit Go.Proofs.YtiipailmldbpbaaDoorW.PrintWords Go.Proofs.YtiipailmldbpbaaDoorW.PrintLast Go.Proofs.YtiipailmldbpbaaDoorW.PrintMore
set_option linter.unusedVariables false
set_option linter.unusedSimpArgs false
open Go.Proofs.YtiipailmldbpbaaDoorS
structure SolW (w wr : World) (bs : Nat) (pc : Array Value) (bl : List Bool) (cells sc : List ByteArray) (ss : List Bool) (at_ : Int) (dn : Bool) (C0 C1 : Option Addr) (m0 m1 : Nat) : Prop where
  s : wr.heap[bs]? = some (.cells #[.slice C0 sc.length m0, .slice C1 ss.length m1, .int .i64 at_, .bool dn] 30 (0, 0))
  p : wr.heap[w.heap.size]? = some (.cells pc 27 (0, 0))
  x : Kd.R Kd.string 9 wr w.heap.size (fun _ => True) (.slice C0 sc.length m0) sc
  b : Kd.R Kd.bool 4 wr w.heap.size (fun _ => True) (.slice C1 ss.length m1) ss
  bw : Below w.heap.size w wr
  r : Rsheet bl cells sc ss at_
theorem SolW.rows {w wr : World} {bs : Nat} {pc : Array Value} {bl : List Bool} {cells sc : List ByteArray} {ss : List Bool} {at_ : Int} {dn : Bool} {C0 C1 : Option Addr} {m0 m1 : Nat} (h : SolW w wr bs pc bl cells sc ss at_ dn C0 C1 m0 m1) : ShtR C0 m0 sc C1 m1 ss wr :=
  ⟨(Kd.R_reads' h.x).2.2, (Kd.R_reads' h.x).2.1, (Kd.R_reads' h.b).2.2, (Kd.R_reads' h.b).2.1⟩
theorem SolW.put {w wr : World} {bs : Nat} {pc : Array Value} {bl : List Bool} {cells sc2 : List ByteArray} {ss2 : List Bool} {at2 : Int} {dn2 : Bool} {D0 D1 : Option Addr} {n0 n1 : Nat} (hbs : w.heap.size < bs) (c0 c1 c2 c3 : Value)
    (hs : wr.heap[bs]? = some (.cells #[c0, c1, c2, c3] 30 (0, 0))) (hp : wr.heap[w.heap.size]? = some (.cells pc 27 (0, 0))) (hx : Kd.R Kd.string 9 wr w.heap.size (fun _ => True) (.slice D0 sc2.length n0) sc2) (hb : Kd.R Kd.bool 4 wr w.heap.size (fun _ => True) (.slice D1 ss2.length n1) ss2) (hB : Below w.heap.size w wr) (hr : Rsheet bl cells sc2 ss2 at2) :
    SolW w (put4 wr bs (.slice D0 sc2.length n0) (.slice D1 ss2.length n1) (.int .i64 at2) (.bool dn2)) bs pc bl cells sc2 ss2 at2 dn2 D0 D1 n0 n1 := by
  have F := put4_facts hs (.slice D0 sc2.length n0) (.slice D1 ss2.length n1) (.int .i64 at2) (.bool dn2)
  exact ⟨F.1, (F.2.1 _ (by omega)).trans hp, R_of_heap hx hs (by decide) F.2.1, R_of_heap hb hs (by decide) F.2.1, F.2.2 _ _ hB (by omega), hr⟩
theorem SolW.alloc {w wr : World} {bs : Nat} {pc : Array Value} {bl : List Bool} {cells sc : List ByteArray} {ss : List Bool} {at_ : Int} {dn : Bool} {C0 C1 : Option Addr} {m0 m1 : Nat} (h : SolW w wr bs pc bl cells sc ss at_ dn C0 C1 m0 m1) (o : Obj) : SolW w (wr.alloc o) bs pc bl cells sc ss at_ dn C0 C1 m0 m1 :=
  ⟨blk_alloc h.s o, blk_alloc h.p o, Kd.R_alloc h.x o, Kd.R_alloc h.b o, below_alloc h.bw o, h.r⟩
theorem SolW.drew {w wr : World} {bs : Nat} {pc : Array Value} {bl : List Bool} {cells sc : List ByteArray} {ss : List Bool} {at_ : Int} {dn : Bool} {C0 C1 : Option Addr} {m0 m1 : Nat} (h : SolW w wr bs pc bl cells sc ss at_ dn C0 C1 m0 m1) : SolW w wr.drew bs pc bl cells sc ss at_ dn C0 C1 m0 m1 :=
  ⟨h.s, h.p, Kd.R_drew h.x, Kd.R_drew h.b, below_drew h.bw, h.r⟩
set_option maxHeartbeats 8000000 in
set_option maxRecDepth 1000000 in
theorem SheetSolved.calls {title : ByteArray} {H W : Int} {A2 : Option Addr} {c2 : Nat} {bl : List Bool} {A3 : Option Addr} {c3 : Nat} {ri : List Bool} {A4 : Option Addr} {c4 : Nat} {be : List Bool} {A5 : Option Addr} {c5 : Nat} {cells : List ByteArray} {A6 : Option Addr} {c6 : Nat} {clues : List ByteArray} {reveal : Bool} {w : World} (hT : Tabs w) (hP : PuzR A2 c2 bl A3 c3 ri A4 c4 be A5 c5 cells A6 c6 clues w) (hz : PuzS title cells clues) :
    Calls Tryd.prog 3 #[.agg #[.string title, .int .i64 H, .int .i64 W, .slice A2 bl.length c2, .slice A3 ri.length c3, .slice A4 be.length c4, .slice A5 cells.length c5, .slice A6 clues.length c6], .bool reveal] w fun e w' => e = .returned (.bool true) ∧ Below w.heap.size w w' := by
  have hx := box1 w (.cells #[.string title, .int .i64 H, .int .i64 W, .slice A2 bl.length c2, .slice A3 ri.length c3, .slice A4 be.length c4, .slice A5 cells.length c5, .slice A6 clues.length c6] 27)
  replace hx := Lib.hid hx
  have hu27 := Tryd.underlying27
  have hu30 := Tryd.underlying30
  have hu36 := Tryd.underlying36
  obtain ⟨tc, ts, ta, td, er, hr⟩ : ∃ tc ts ta td er, sstart title H W bl ri be cells clues = (tc, ts, ta, td, er) := ⟨_, _, _, _, _, rfl⟩
  by_cases her : er = 0
  · have tne : (er != 0) = false := by rw [her]; rfl
    rw [her] at hr
    obtain ⟨hp, hR⟩ := start_right hr
    rw [← her] at hr
    clear her
    replace hr := Lib.hid hr
    replace hz := Lib.hid hz
    replace hp := Lib.hid hp
    replace hR := Lib.hid hR
    go_enter Tryd.func3, Tryd.ntmps3
    go_wp2_with (first
      | (go_at_call 7; go_must (refine (rebuslaw23_awake.calls _ (tabs_below hT hx.out.2)).mono ?_; rintro e w3 ⟨rfl, hb3⟩; have bP := Lib.hid (blk_below hx.out.1 hb3); have hB3 := Lib.hid (below_step hx.out.2 hb3); have p3 := cells8 bP.out; clear hb3))
      | (go_at_call 8; go_must (refine (start_calls (tabs_below hT hB3.out) (hP.below hB3.out) hz.out).mono ?_; rintro e w4 hD; obtain ⟨v0, v1, rfl, r0, r1, hb4⟩ := hD.opened hr.out; clear hD; obtain ⟨B0, k0, rfl⟩ := Kd.R_slice r0; obtain ⟨B1, k1, rfl⟩ := Kd.R_slice r1; have bP4 := Lib.hid (blk_below bP.out hb4); have hB4 := Lib.hid (below_step hB3.out hb4); have p4 := cells8 bP4.out; have y4 := blk_lt bP4.out; have R0 := Lib.hid (Kd.R_lower r0 (below_size hB3.out)); have R1 := Lib.hid (Kd.R_lower r1 (below_size hB3.out)); clear r0 r1 p3 hb4)))
    have bS5 := blk_new w4 (.cells #[.slice B0 tc.length k0, .slice B1 ts.length k1, .int .i64 ta, .bool td] 30)
    have bP5 := blk_alloc bP4.out (.cells #[.slice B0 tc.length k0, .slice B1 ts.length k1, .int .i64 ta, .bool td] 30)
    have hB5 := below_alloc hB4.out (.cells #[.slice B0 tc.length k0, .slice B1 ts.length k1, .int .i64 ta, .bool td] 30)
    have R05 := Kd.R_alloc R0.out (.cells #[.slice B0 tc.length k0, .slice B1 ts.length k1, .int .i64 ta, .bool td] 30)
    have R15 := Kd.R_alloc R1.out (.cells #[.slice B0 tc.length k0, .slice B1 ts.length k1, .int .i64 ta, .bool td] 30)
    generalize w4.alloc (.cells #[.slice B0 tc.length k0, .slice B1 ts.length k1, .int .i64 ta, .bool td] 30) = w5 at bS5 bP5 hB5 R05 R15 ⊢
    generalize w4.heap.size = bs at bS5 y4 ⊢
    have hW5 := Lib.hid (SolW.mk bS5 bP5 R05 R15 hB5 hR.out)
    clear bS5 bP5 hB5 R05 R15 R0 R1 p4 bP4 hB4 bP hB3 hx hR
    go_loopw [30] (fun v30 wr => ∃ (i : Nat) (q : Int) (sc : List ByteArray) (ss : List Bool) (at_ : Int) (dn : Bool) (C0 C1 : Option Addr) (m0 m1 : Nat), v30 = .int .i64 q ∧ Hid (q = i ∧ i ≤ cells.length) ∧ Hid (SolW w wr bs #[.string title, .int .i64 H, .int .i64 W, .slice A2 bl.length c2, .slice A3 ri.length c3, .slice A4 be.length c4, .slice A5 cells.length c5, .slice A6 clues.length c6] bl cells sc ss at_ dn C0 C1 m0 m1) ∧ Hid (∀ j : Nat, j < i → (rdOf ByteArray.empty cells (j : Int)).toList ≠ [] → (rdOf ByteArray.empty sc (j : Int)).toList = (rdOf ByteArray.empty cells (j : Int)).toList)) (fun v30 _ => cells.length - (intOf v30).toNat)
    case atStart => exact ⟨0, 0, tc, ts, ta, td, B0, B1, k0, k1, rfl, Lib.hid ⟨rfl, Nat.zero_le _⟩, hW5, Lib.hid (fun j hj => absurd hj (Nat.not_lt_zero _))⟩
    case round =>
      obtain ⟨i, q, sc, ss, at_, dn, C0, C1, m0, m1, rfl, hq, hW, hF⟩ := hrel
      have p7 := cells8 hW.out.p
      have s7 := cells4 hW.out.s
      have f7 := frozen4 hW.out.s
      have zl := blk_lt hW.out.s
      have zp := blk_lt hW.out.p
      by_cases hlt : i < cells.length
      · have hq0 : 0 ≤ q := by have := hq.out; omega
        have hq1 : q < (cells.length : Int) := by have := hq.out; omega
        have hq3 : q < 1048576 := by have := hz.out.l; omega
        obtain ⟨ad, eA, zx⟩ := Kd.at_string (hP.below hW.out.bw).r5 q hq0 hq1
        cases eA
        obtain ⟨xa, hxa⟩ : ∃ x, rdOf ByteArray.empty cells q = x := ⟨_, rfl⟩
        rw [hxa] at zx
        by_cases hne : xa.toList = []
        · have te : xa.toList.isEmpty = true := by rw [hne]; rfl
          replace hxa := Lib.hid hxa
          replace hlt := Lib.hid hlt
          have hne := Lib.hid hne
          go_wp2
          refine ⟨⟨i + 1, q + 1, sc, ss, at_, dn, C0, C1, m0, m1, rfl, Lib.hid ⟨by have := hq.out; omega, hlt.out⟩, hW, Lib.hid (fun j hj h => ?_)⟩, ?_⟩
          · by_cases e : j = i
            · subst e
              rw [← hq.out.1, hxa.out] at h
              exact absurd hne.out h
            · exact hF.out j (by omega) h
          · simp only [intOf]; have := hq.out; have := hlt.out; omega
        · have te : xa.toList.isEmpty = false := toList_nil.2 hne
          have hne2 : (rdOf ByteArray.empty cells (i : Int)).toList ≠ [] := by rw [← hq.out.1, hxa]; exact hne
          have hls : uletter xa = true := by have := (text_ok hp.out hlt hne2).2; rw [← hq.out.1, hxa] at this; exact this
          have hxs : xa.size ≤ 1048576 := by have := letter_small hls; omega
          obtain ⟨dn2, sc2, ss2, at2, d1, R1, d2, R2, l2, x2, o2⟩ := solve_step dn hp.out hW.out.r hlt hne2 reveal
          rw [← hq.out.1] at d1 R1 d2 x2
          rw [hxa] at d2 x2
          have hq2 : q < (sc2.length : Int) := by rw [l2]; exact hq1
          replace d1 := Lib.hid d1
          replace d2 := Lib.hid d2
          replace R1 := Lib.hid R1
          replace R2 := Lib.hid R2
          replace x2 := Lib.hid x2
          replace o2 := Lib.hid o2
          replace hxa := Lib.hid hxa
          replace hlt := Lib.hid hlt
          replace l2 := Lib.hid l2
          have tok1 : True := trivial
          have tok2 : True := trivial
          clear hne hls hne2
          cases reveal with
          | true =>
            simp only [if_true, Bool.false_eq_true, if_false] at d2
            go_wp2_with (first
              | (go_at_call 9; have tq := tok1; go_must (clear tq tok1; refine (sheet_Do.calls (tabs_below hT hW.out.bw) (hP.below hW.out.bw) hW.out.rows hz.out hW.out.r.small (by decide)).mono ?_; rintro e w3 hD; obtain ⟨v0, v1, rfl, r0, r1, hb3⟩ := hD.opened d1.out; clear hD; obtain ⟨D0, d0, rfl⟩ := Kd.R_slice r0; obtain ⟨D1, d1, rfl⟩ := Kd.R_slice r1; have bP3 := Lib.hid (blk_below hW.out.p hb3); have bS3 := Lib.hid (blk_below hW.out.s hb3); have hB3 := Lib.hid (below_step hW.out.bw hb3); have hS3 := Lib.hid (ShtR.mk (Kd.R_reads' r0).2.2 (Kd.R_reads' r0).2.1 (Kd.R_reads' r1).2.2 (Kd.R_reads' r1).2.1); have p3 := cells8 bP3.out; have s3 := cells4 bS3.out; have z3 := blk_lt bS3.out; have y3 := blk_lt bP3.out; clear r0 r1 hb3 p7 s7 f7 zl zp zx))
              | (go_at_call 9; have tq := tok2; go_must (clear tq tok2; have hx2 := box2 w3 (.cells #[.slice D0 sc.length d0, .slice D1 ss.length d1, .int .i64 q, .bool dn2] 30) (.cells #[.int .i64 6, .int .i64 0, .string ⟨#[]⟩] 36); refine (sheet_Do.calls (tabs_below hT (below_step hB3.out hx2.2.2)) (hP.below (below_step hB3.out hx2.2.2)) (hS3.out.below hx2.2.2) hz.out R1.out.small (by decide)).mono ?_; rintro e w5 hD; obtain ⟨v2, v3, rfl, r2, r3, hb5⟩ := hD.opened d2.out; clear hD; obtain ⟨E0, n0, rfl⟩ := Kd.R_slice r2; obtain ⟨E1, n1, rfl⟩ := Kd.R_slice r3; have hBx := below_step hx2.2.2 hb5; have bP5 := Lib.hid (blk_below bP3.out hBx); have bS5 := Lib.hid (blk_below bS3.out hBx); have hB5 := Lib.hid (below_step hB3.out hBx); have hsz := below_size (below_step hB3.out hx2.2.2); have R0 := Lib.hid (Kd.R_lower r2 hsz); have R3 := Lib.hid (Kd.R_lower r3 hsz); obtain ⟨ad2, eA2, zy⟩ := Kd.at_string (Kd.R_reads' (Kd.R_alloc R0.out (.cells #[.slice E0 sc2.length n0, .slice E1 ss2.length n1, .int .i64 at2, .bool dn2] 30))).2.2 q hq0 hq2; cases eA2; rw [x2.out] at zy; have p6 := cells8 bP5.out; have s6 := cells4 bS5.out; have f6 := frozen4 bS5.out; have z5 := blk_lt bS5.out; have y5 := blk_lt bP5.out; clear r2 r3 hb5 hBx hx2 hsz p3 s3 z3 y3))
              | ((with_reducible refine gate_store (t := 30) (p := 5) (v := .tmp 78) rfl ?_); go_must (refine store_event (w1 := (put4 w5 bs (.slice (some ad2) sc2.length n0) (.slice E1 ss2.length n1) (.int .i64 at2) (.bool dn2)).alloc (.cells #[.slice (some ad2) sc2.length n0, .slice E1 ss2.length n1, .int .i64 at2, .bool dn2] 30)) (by rfl) (by rfl) (by rfl) ?hr ?_; (case hr => first | (go_simp; done) | (go_simp; rfl)); intro w7 hw7; have hW7 := (SolW.put (dn2 := dn2) y4 _ _ _ _ bS5.out bP5.out R0.out R3.out hB5.out R2.out).alloc (.cells #[.slice (some ad2) sc2.length n0, .slice E1 ss2.length n1, .int .i64 at2, .bool dn2] 30); rw [← hw7] at hW7; replace hW7 := Lib.hid hW7; clear hw7 p6 s6 f6)))
            refine ⟨⟨i + 1, q + 1, sc2, ss2, at2, dn2, _, _, n0, n1, rfl, Lib.hid ⟨by have := hq.out; omega, hlt.out⟩, hW7, Lib.hid (fun j hj h => ?_)⟩, ?_⟩
            · by_cases e : j = i
              · subst e
                rw [← hq.out.1, x2.out, hxa.out]
              · rw [o2.out j e]; exact hF.out j (by omega) h
            · simp only [intOf]; have := hq.out; have := hlt.out; omega
          | false =>
            simp only [if_true, Bool.false_eq_true, if_false] at d2
            go_wp2_with (first
              | (go_at_call 9; have tq := tok1; go_must (clear tq tok1; refine (sheet_Do.calls (tabs_below hT hW.out.bw) (hP.below hW.out.bw) hW.out.rows hz.out hW.out.r.small (by decide)).mono ?_; rintro e w3 hD; obtain ⟨v0, v1, rfl, r0, r1, hb3⟩ := hD.opened d1.out; clear hD; obtain ⟨D0, d0, rfl⟩ := Kd.R_slice r0; obtain ⟨D1, d1, rfl⟩ := Kd.R_slice r1; have bP3 := Lib.hid (blk_below hW.out.p hb3); have bS3 := Lib.hid (blk_below hW.out.s hb3); have hB3 := Lib.hid (below_step hW.out.bw hb3); have hS3 := Lib.hid (ShtR.mk (Kd.R_reads' r0).2.2 (Kd.R_reads' r0).2.1 (Kd.R_reads' r1).2.2 (Kd.R_reads' r1).2.1); have p3 := cells8 bP3.out; have s3 := cells4 bS3.out; have z3 := blk_lt bS3.out; have y3 := blk_lt bP3.out; clear r0 r1 hb3 p7 s7 f7 zl zp zx))
              | (go_at_call 9; have tq := tok2; go_must (clear tq tok2; have hx2 := box2 w3 (.cells #[.slice D0 sc.length d0, .slice D1 ss.length d1, .int .i64 q, .bool dn2] 30) (.cells #[.int .i64 1, .int .i64 0, .string xa] 36); refine (sheet_Do.calls (tabs_below hT (below_step hB3.out hx2.2.2)) (hP.below (below_step hB3.out hx2.2.2)) (hS3.out.below hx2.2.2) hz.out R1.out.small hxs).mono ?_; rintro e w5 hD; obtain ⟨v2, v3, rfl, r2, r3, hb5⟩ := hD.opened d2.out; clear hD; obtain ⟨E0, n0, rfl⟩ := Kd.R_slice r2; obtain ⟨E1, n1, rfl⟩ := Kd.R_slice r3; have hBx := below_step hx2.2.2 hb5; have bP5 := Lib.hid (blk_below bP3.out hBx); have bS5 := Lib.hid (blk_below bS3.out hBx); have hB5 := Lib.hid (below_step hB3.out hBx); have hsz := below_size (below_step hB3.out hx2.2.2); have R0 := Lib.hid (Kd.R_lower r2 hsz); have R3 := Lib.hid (Kd.R_lower r3 hsz); obtain ⟨ad2, eA2, zy⟩ := Kd.at_string (Kd.R_reads' (Kd.R_alloc R0.out (.cells #[.slice E0 sc2.length n0, .slice E1 ss2.length n1, .int .i64 at2, .bool dn2] 30))).2.2 q hq0 hq2; cases eA2; rw [x2.out] at zy; have p6 := cells8 bP5.out; have s6 := cells4 bS5.out; have f6 := frozen4 bS5.out; have z5 := blk_lt bS5.out; have y5 := blk_lt bP5.out; clear r2 r3 hb5 hBx hx2 hsz p3 s3 z3 y3))
              | ((with_reducible refine gate_store (t := 30) (p := 5) (v := .tmp 78) rfl ?_); go_must (refine store_event (w1 := (put4 w5 bs (.slice (some ad2) sc2.length n0) (.slice E1 ss2.length n1) (.int .i64 at2) (.bool dn2)).alloc (.cells #[.slice (some ad2) sc2.length n0, .slice E1 ss2.length n1, .int .i64 at2, .bool dn2] 30)) (by rfl) (by rfl) (by rfl) ?hr ?_; (case hr => first | (go_simp; done) | (go_simp; rfl)); intro w7 hw7; have hW7 := (SolW.put (dn2 := dn2) y4 _ _ _ _ bS5.out bP5.out R0.out R3.out hB5.out R2.out).alloc (.cells #[.slice (some ad2) sc2.length n0, .slice E1 ss2.length n1, .int .i64 at2, .bool dn2] 30); rw [← hw7] at hW7; replace hW7 := Lib.hid hW7; clear hw7 p6 s6 f6)))
            refine ⟨⟨i + 1, q + 1, sc2, ss2, at2, dn2, _, _, n0, n1, rfl, Lib.hid ⟨by have := hq.out; omega, hlt.out⟩, hW7, Lib.hid (fun j hj h => ?_)⟩, ?_⟩
            · by_cases e : j = i
              · subst e
                rw [← hq.out.1, x2.out, hxa.out]
              · rw [o2.out j e]; exact hF.out j (by omega) h
            · simp only [intOf]; have := hq.out; have := hlt.out; omega
      · have hge : ¬ q < (cells.length : Int) := by have := hq.out; omega
        have hdone : sdone title H W bl ri be cells clues sc ss at_ = true := by
          unfold sdone
          rw [decide_eq_true (hW.out.r.check hp.out), (slacks_iff cells sc cells.length 0).2 (fun j _ hj h => hF.out j (by have := hq.out; omega) h)]
          rfl
        replace hdone := Lib.hid hdone
        go_wp2_with (first
          | (go_at_call 10; go_must (refine (done_calls (tabs_below hT hW.out.bw) (hP.below hW.out.bw) hW.out.rows hz.out hW.out.r.small).mono ?_; rintro e w8 ⟨rfl, hb8⟩; rw [hdone.out])))
        go_ret
        exact ⟨rfl, below_step hW.out.bw hb8⟩
  · have tne : (er != 0) = true := bne_iff_ne.2 her
    have hnil := start_err hr her
    have tl : ((tc.length : Int) == 0) = true := by rw [hnil]; rfl
    have tl2 : (tc.length == 0) = true := by rw [hnil]; rfl
    have tl3 : tc.isEmpty = true := by rw [hnil]; rfl
    replace hr := Lib.hid hr
    replace hz := Lib.hid hz
    clear hnil her
    go_enter Tryd.func3, Tryd.ntmps3
    go_wp2_with (first
      | (go_at_call 7; go_must (refine (rebuslaw23_awake.calls _ (tabs_below hT hx.out.2)).mono ?_; rintro e w3 ⟨rfl, hb3⟩; have bP := Lib.hid (blk_below hx.out.1 hb3); have hB3 := Lib.hid (below_step hx.out.2 hb3); have p3 := cells8 bP.out; clear hb3))
      | (go_at_call 8; go_must (refine (start_calls (tabs_below hT hB3.out) (hP.below hB3.out) hz.out).mono ?_; rintro e w4 hD; obtain ⟨v0, v1, rfl, r0, r1, hb4⟩ := hD.opened hr.out; clear hD; obtain ⟨B0, k0, rfl⟩ := Kd.R_slice r0; obtain ⟨B1, k1, rfl⟩ := Kd.R_slice r1; have bP4 := Lib.hid (blk_below bP.out hb4); have hB4 := Lib.hid (below_step hB3.out hb4); have p4 := cells8 bP4.out; have y4 := blk_lt bP4.out; have R0 := Lib.hid (Kd.R_lower r0 (below_size hB3.out)); have R1 := Lib.hid (Kd.R_lower r1 (below_size hB3.out)); clear r0 r1 p3 hb4)))
    go_ret
    exact ⟨rfl, below_alloc hB4.out _⟩
end Go.Proofs.YtiipailmldbpbaaDoor.Q
end
section
namespace Go.Proofs.YtiipailmldbpbaaDoor.solved
open Go.ChangeShapes Go.WideShapes Go.ChangeAt Go.RowKit Go.Joins
open Go.Proofs.YtiipailmldbpbaaDoor.Q Go.Proofs.YtiipailmldbpbaaDoorS
set_option maxRecDepth 100000
def wArgs : Array Value := #[.agg #[.string ⟨#[]⟩, .int .i64 0, .int .i64 0, .slice none 0 0, .slice none 0 0, .slice none 0 0, .slice none 0 0, .slice none 0 0], .bool false]
def wData {H : Type} : List (DataW H) := [.agg [.lit (.string []), .agg [.lit (.int .i64 0), .lit (.int .i64 0), .nil, .nil, .nil], .nil, .nil], .lit (.bool false)]
theorem laid_met (os : Os) : laidMet Tryd.prog Rows.sheetSolvedUptoRow.laid ((laidWorld os).forCall (fun _ _ => 0) ⟨#[], wArgs, []⟩).memory :=
  laidMet_of_run' 8 (by kernel_rfl) (by kernel_rfl)
theorem reads (os : Os) {H : Type} (enc : TypeId × Value → H) : ∃ places, DataW.whole enc Tryd.prog ((laidWorld os).forCall (fun _ _ => 0) ⟨#[], wArgs, []⟩).memory Tryd.f3.params.toList Rows.sheetSolvedSpec.vars false wArgs.toList 8 = some (wData, [], places) :=
  ⟨[], by kernel_rfl⟩
theorem contract (H : Type) (enc : TypeId × Value → H) (W : World) (base : Nat) (args : Array Value) (ds gs : List (DataW H)) (before : List MemPlace)
    (hval : ∀ (j : Nat) t v, Tryd.f3.params[j]? = some t → args[j]? = some v → Value.okWide Tryd.prog W .any base t v)
    (hW : DataW.Whole enc Tryd.prog Tryd.f3.params.toList Rows.sheetSolvedSpec.vars false W args.toList ds gs before) (hL : laidMetH Tryd.prog Rows.sheetSolvedUptoRow.laid W) (hk : Rows.uptoSmall H (ds ++ gs) = true) :
    Calls Tryd.prog 3 args W fun e W' => ∃ v, e = .returned v ∧ Rows.sheetSolvedSpec.post enc Tryd.prog Tryd.f3 false true false false W args v W' := by
  have hW' := hW
  obtain ⟨p, q, hA0, hV, rfl, hfz, hnd⟩ := hW
  have hA : DataW.TrodAll enc Tryd.prog W 0 (fun _ => true) true Tryd.f3.params.toList args.toList ds p := hA0
  rw [Tryd.params3] at hA hval
  obtain ⟨v0, v1, d0, d1, p0, p1, rfl, rfl, rfl, h0, h1⟩ := trodAll_two hA
  obtain ⟨rfl, rfl⟩ := trodVars_none hV
  simp only [List.append_nil] at hk
  have hb := bulk_bound hk
  simp only [Rows.uptoBulkAll] at hb
  obtain ⟨title, Hh, Ww, A2, c2, bl, A3, c3, ri, A4, c4, be, A5, c5, cells, A6, c6, clues, rfl, hP, hz⟩ := open_puzzle (hval 0 27 v0 rfl rfl) h0
  obtain ⟨bb, rfl, rfl, rfl⟩ := Go.RowKit.open_bool Tryd.underlying4 (hval 1 4 v1 rfl rfl) h1
  refine (SheetSolved.calls (tabs_of_laid hL) hP (hz (by omega))).mono fun e W' ⟨he, hbel⟩ => ?_
  subst he
  have hlt : ∀ x ∈ p0 ++ ([]), x.block < W.heap.size := fun x hx => hW'.lt x (by simpa using hx)
  refine ⟨_, rfl, post_of_below (pa := p0 ++ ([])) (pv := []) hW' (fun _ _ _ => trodAll_mk1 (shut_bool Tryd.underlying4 true)) (fun sp hsp => ?_) (fun _ _ => rfl) (by simp) hbel (ok_one (by kernel_rfl) rfl (okWide_bool_mk Tryd.underlying4 _))⟩
  have stay : ∀ {t : TypeId} {v : Value} {d : DataW H} {ps : List MemPlace}, Tryd.prog.readableRec t = true → t < Tryd.prog.types.size → DataW.Trod enc Tryd.prog W 0 (fun _ => true) true t v d ps → (∀ x ∈ ps, x ∈ p0 ++ ([])) → DataW.Trod enc Tryd.prog W' 0 sp true t v d ps := fun hr hrow h hin =>
    WideElems.Trod_stays laid_out hr hrow h (fun x hx => hbel.same (hlt x (hin x hx))) (fun x hx => hsp x (by simpa using hin x hx))
  exact trodAll_mk2 (stay (by kernel_rfl) (of_decide_eq_true (by kernel_rfl)) h0 (fun x hx => List.mem_append_left _ hx)) (shut_bool Tryd.underlying4 _)
theorem liftedUpto (os : Os) (started : os.Started) (H : Type) (enc : TypeId × Value → H) (F : Stop.Interp) :
    ReturnsInHanded {} Tryd.checked os 3 .any ((Rows.OpenSpec.upto Rows.sheetSolvedSpec).preRow enc Tryd.prog Tryd.f3 Rows.sheetSolvedUptoRow.domain false Rows.sheetSolvedUptoRow.laid) (((Rows.OpenSpec.upto Rows.sheetSolvedSpec).at F).post enc Tryd.prog Tryd.f3 false true false false) := by
  obtain ⟨places, hx⟩ := reads os enc
  refine returnsInHanded_of_row (C := Tryd.checked) (s := Rows.OpenSpec.upto Rows.sheetSolvedSpec) own_knob started (by kernel_rfl) Tryd.func3
    (witness_row_at (enc := enc) (C := Tryd.checked) false (laidWorld os) wArgs rfl (by kernel_rfl) (by kernel_rfl) (by kernel_rfl)
      (OpenSpec.preRow_of_cond 8 hx (by kernel_rfl) (fun k hk => by cases hk; kernel_rfl) (by kernel_rfl) (laid_met os))) ?_
  intro W base args ds gs before hval hW _ hcond _ hL _ _
  exact contract H enc W base args ds gs before hval hW hL (hcond _ rfl)
theorem saidUpto : Rows.SheetSolvedUptoSaid :=
  OpenClaim.holds_of_cond 3 Tryd.f3 rfl rfl rfl rfl rfl rfl rfl ⟨rfl, rfl, rfl, rfl, rfl⟩ rfl rfl rfl rfl rfl (by kernel_rfl) Tryd.func3 (by kernel_rfl)
    (of_decide_eq_true (by kernel_rfl)) (by unfold Func.isWrapper; first | (rw [if_pos (by decide +kernel)]; kernel_rfl) | (rw [if_neg (by decide +kernel)]; exact ⟨rfl, rfl⟩))
    (fun os started H enc _ F => by rw [OpenClaim.pre_eq_preRow]; exact liftedUpto os started H enc F)
theorem plain (f : FuncId) (fn : Func) (hf : Tryd.pinned.checked.prog.funcNamed "rebus/rebuslaw23.SheetSolved" = some f) (hfn : Tryd.pinned.checked.prog.funcs[f]? = some fn) :
    false = Tryd.pinned.checked.prog.looks [] ∧ ∀ (j : Nat) t, fn.params[j]? = some t → Tryd.pinned.checked.prog.wantsStandIn t = false := by
  obtain rfl : f = 3 := Option.some.inj ((show Tryd.prog.funcNamed "rebus/rebuslaw23.SheetSolved" = some 3 by kernel_rfl).symm.trans hf) |>.symm
  obtain rfl : fn = Tryd.f3 := (Option.some.inj (Tryd.func3.symm.trans hfn)).symm
  refine ⟨by kernel_rfl, fun j t ht => ?_⟩
  rw [Tryd.params3] at ht
  have hm : t ∈ #[27, 4] := Array.mem_of_getElem? ht
  simp only [List.mem_toArray, List.mem_cons, List.not_mem_nil, or_false] at hm
  rcases hm with rfl | rfl
  · exact (show Tryd.prog.wantsStandIn 27 = false by kernel_rfl)
  · exact (show Tryd.prog.wantsStandIn 4 = false by kernel_rfl)
theorem cardUpto : Rows.SheetSolvedUptoCardSaid :=
  Claim7.holds_tied_plain_at .later [] _ _ _ _ saidUpto (fun _ h => by cases h) (by kernel_rfl) (fun _ h => by cases h) sheetSolvedUpto_row_tie rfl ⟨rfl, rfl⟩ (by kernel_rfl) rfl plain (by kernel_rfl)
end Go.Proofs.YtiipailmldbpbaaDoor.solved
end
#print axioms Go.Proofs.YtiipailmldbpbaaDoor.solved.cardUpto
