/- PART 19 OF A PROOF: Lean functions, and that the program computes them; written by hand and by a program. Not trusted: Lean checks it. -/
import Derived.Test.YtplhkfppjemjmaaDoorBa18
set_option linter.unusedVariables false
set_option linter.unusedSimpArgs false
namespace Go.Proofs.YtplhkfppjemjmaaDoor.Q
open Go.RowKit Go.Proofs.YtplhkfppjemjmaaDoorW.PrintWords Go.Proofs.YtplhkfppjemjmaaDoorW.PrintLast Go.Proofs.YtplhkfppjemjmaaDoorW.PrintMore
set_option linter.unusedVariables false
set_option linter.unusedSimpArgs false
open Go.Proofs.YtplhkfppjemjmaaDoorS
theorem ses_ok {P : Puz} {sh : List Sht} {log : List Act3} (hz : PuzS P.t P.cells P.clues) (hr : Run P sh log) (hn : log.length ≤ 60) (hs : ∀ s ∈ sh, RSht P s) : SesOk P ⟨sh, log, []⟩ :=
  ⟨hz, by have := hr.n; show 0 < sh.length; omega, by have := hr.n; show sh.length ≤ 1000000; omega, by show log.length ≤ 1000000; omega, Nat.zero_le _, fun s h => (hs s h).small hz.l, fun a h => by cases h⟩
theorem st_ok {P : Puz} {sh : List Sht} {log : List Act3} (hz : PuzS P.t P.cells P.clues) (hr : Run P sh log) (hn : log.length ≤ 60) (hs : ∀ s ∈ sh, RSht P s) (ha : ∀ a ∈ log, a.f2.size ≤ 1048576) (k : Nat) : SesOk P (stU sh log k) := by
  have h := hr.n
  have l1 : (sh.take (k + 1)).length ≤ sh.length := by rw [List.length_take]; omega
  have l0 : 0 < (sh.take (k + 1)).length := by rw [List.length_take]; omega
  have l2 : (log.take k).length ≤ log.length := by rw [List.length_take]; omega
  have l3 := on_st sh log k
  exact ⟨hz, l0, by show (sh.take (k + 1)).length ≤ 1000000; omega, by show (log.take k).length ≤ 1000000; omega, by omega, fun s h => (hs s (List.mem_of_mem_take h)).small hz.l, fun a h => ha a (List.mem_of_mem_drop (List.mem_reverse.1 h))⟩
set_option maxHeartbeats 16000000 in
set_option maxRecDepth 1000000 in
theorem SessionBack.calls {title : ByteArray} {H W : Int} {A2 : Option Addr} {c2 : Nat} {bl : List Bool} {A3 : Option Addr} {c3 : Nat} {ri : List Bool} {A4 : Option Addr} {c4 : Nat} {be : List Bool} {A5 : Option Addr} {c5 : Nat} {cells : List ByteArray} {A6 : Option Addr} {c6 : Nat} {clues : List ByteArray} {Aa : Option Addr} {ca : Nat} {acts : List Act3} {w : World} (hT : Tabs w) (hP : PuzR A2 c2 bl A3 c3 ri A4 c4 be A5 c5 cells A6 c6 clues w) (hA : Kd.C kAct w Aa acts.length acts) (hz : PuzS title cells clues) (h2 : bl.length ≤ 1048576) (h3 : ri.length ≤ 1048576) (h4 : be.length ≤ 1048576) (hal : acts.length ≤ 1048576) (has : ∀ a ∈ acts, a.f2.size ≤ 1048576) :
    Calls Tryd.prog 3 #[.agg #[.string title, .int .i64 H, .int .i64 W, .slice A2 bl.length c2, .slice A3 ri.length c3, .slice A4 be.length c4, .slice A5 cells.length c5, .slice A6 clues.length c6], .slice Aa acts.length ca] w fun e w' => e = .returned (.bool true) ∧ Below w.heap.size w w' := by
  have hx := box1 w (.cells #[.string title, .int .i64 H, .int .i64 W, .slice A2 bl.length c2, .slice A3 ri.length c3, .slice A4 be.length c4, .slice A5 cells.length c5, .slice A6 clues.length c6] 27)
  replace hx := Lib.hid hx
  have hu27 := Tryd.underlying27
  have hu24 := Tryd.underlying24
  have hu36 := Tryd.underlying36
  have hu38 := Tryd.underlying38
  obtain ⟨r, hr⟩ : ∃ r, sstart title H W bl ri be cells clues = r := ⟨_, rfl⟩
  by_cases he : r.2.2.2.2 = 0
  rotate_left
  · have te : (r.2.2.2.2 != 0) = true := by simpa using he
    go_enter Tryd.func3, Tryd.ntmps3
    go_wp2_with (first
      | (go_at_call 4; go_must (refine (rebuslaw24_awake.calls (tabs_below hT hx.out.2)).mono ?_; rintro e w1 ⟨rfl, hb1⟩; have hB1 := Lib.hid (below_step hx.out.2 hb1); have bP := Lib.hid (blk_below hx.out.1 hb1); have p1 := cells8 bP.out; clear hb1))
      | (go_at_call 5; go_must (refine (new_calls (tabs_below hT hB1.out) (hP.below hB1.out) hz h2 h3 h4).mono ?_; rw [hr]; rintro e w2 hN; rcases hN with ⟨_, rfl, hb⟩ | ⟨h, _⟩; rotate_left; exact absurd h he; have hB2 := Lib.hid (below_step hB1.out hb); clear hb)))
    go_ret
    exact ⟨rfl, hB2.out⟩
  obtain ⟨P, hPz⟩ : ∃ P, (⟨title, H, W, bl, ri, be, cells, clues⟩ : Puz) = P := ⟨_, rfl⟩
  obtain ⟨s0, hs0⟩ : ∃ s : Sht, (r.1, r.2.1, r.2.2.1, r.2.2.2.1) = s := ⟨_, rfl⟩
  have hrr : r = (s0.1, s0.2.1, s0.2.2.1, s0.2.2.2, 0) := by rw [← hs0, ← he]
  have hzP : PuzS P.t P.cells P.clues := by rw [← hPz]; exact hz
  have hrs : RSht P s0 := by rw [← hPz]; exact (start_right (hr.trans hrr)).2
  obtain ⟨n, hn⟩ : ∃ n, min acts.length 60 = n := ⟨_, rfl⟩
  have hn1 : n ≤ acts.length ∧ n ≤ 60 ∧ (n < 60 → n = acts.length) := by omega
  clear hn
  have te : (r.2.2.2.2 != 0) = false := by simpa using he
  replace hn1 := Lib.hid hn1
  replace hzP := Lib.hid hzP
  replace hrs := Lib.hid hrs
  replace hPz := Lib.hid hPz
  replace hs0 := Lib.hid hs0
  replace hrr := Lib.hid hrr
  go_enter Tryd.func3, Tryd.ntmps3
  go_wp2_with (first
    | (go_at_call 4; go_must (refine (rebuslaw24_awake.calls (tabs_below hT hx.out.2)).mono ?_; rintro e w1 ⟨rfl, hb1⟩; have hB1 := Lib.hid (below_step hx.out.2 hb1); have bP := Lib.hid (blk_below hx.out.1 hb1); have p1 := cells8 bP.out; clear hb1))
    | (go_at_call 5; go_must (refine (new_calls (tabs_below hT hB1.out) (hP.below hB1.out) hz h2 h3 h4).mono ?_; rw [hr]; rintro e w2 hN; rcases hN with ⟨h, _⟩ | ⟨_, g, rfl, hS, hb⟩; exact absurd he h; rw [hPz.out, hs0.out] at hS; have hS2 := SesT.of hS; have hB2 := Lib.hid (below_step hB1.out hb); have hBB := Lib.hid hb; clear hb hS)))
  obtain ⟨own2, hown2⟩ : ∃ o : Nat → Prop, (fun k => w1.heap.size ≤ k ∧ k < w2.heap.size) = o := ⟨_, rfl⟩
  rw [hown2] at hS2
  clear hown2
  replace hS2 := Lib.hid hS2
  clear p1 te
  have hm1 := Lib.hid hB1.out.size
  go_loopw [37, 7] (fun v37 v7 wr => ∃ (i : Nat) (q : Int) (own : Nat → Prop) (sh : List Sht) (log : List Act3) (vL : Value), v37 = .int .i64 q ∧ vL = v7 ∧ Hid (q = i ∧ i ≤ n) ∧ Hid (SesT own wr w1.heap.size g P ⟨sh, log, []⟩) ∧ Hid (Run P sh log ∧ log.length ≤ i ∧ (∀ s ∈ sh, RSht P s) ∧ shN sh 0 = s0 ∧ ∀ a ∈ log, a.f2.size ≤ 1048576) ∧ Hid (Kd.R kSht 38 wr w1.heap.size (fun k => ¬ own k) vL (sh.take log.length)) ∧ Hid (Below w1.heap.size w1 wr)) (fun v37 _ _ => n - (intOf v37).toNat)
  case atStart => exact ⟨0, 0, own2, [s0], [], _, rfl, rfl, Lib.hid ⟨rfl, Nat.zero_le _⟩, hS2, Lib.hid ⟨run_new P s0, Nat.le_refl _, fun s h => by rw [List.mem_singleton.1 h]; exact hrs.out, rfl, fun a h => by cases h⟩, Lib.hid (Kd.R_nil _ _ _ _ _), hBB⟩
  case round =>
    clear hS2 hBB hB2
    obtain ⟨i, q, own, sh, log, vL, rfl, rfl, hq, hS, hrun, hL, hB⟩ := hrel
    have hq0 : 0 ≤ q := by have := hq.out; omega
    by_cases hlt : i < n
    · have hq1 : q < (acts.length : Int) := by have := hq.out; have := hn1.out; omega
      have hq2 : (q == 60) = false := by have := hq.out; have := hn1.out; simp; omega
      have hq3 : q < 1048576 := by have := hq.out; have := hn1.out; omega
      obtain ⟨ad, eA, z0, z1, z2⟩ := at_T36 (Kd.C_below hA (below_then hB1.out hm1.out hB.out)) q hq0 hq1
      cases eA
      obtain ⟨a, ha⟩ : ∃ a, rd_T36 acts q = a := ⟨_, rfl⟩
      have haz : a.f2.size ≤ 1048576 := by
        rw [← ha]
        have hm : q.toNat < acts.length := by omega
        have := acN_mem hm
        exact has _ this
      rw [ha] at z0 z1 z2
      clear ha
      replace haz := Lib.hid haz
      replace hlt := Lib.hid hlt
      have hok := Lib.hid (ses_ok hzP.out hrun.out.1 (by have := hrun.out.2.1; have := hq.out; have := hn1.out; omega) hrun.out.2.2.1)
      have hll := Lib.hid (show log.length < 2000 by have := hrun.out.2.1; have := hq.out; have := hn1.out; omega)
      obtain ⟨s, hs⟩ : ∃ s, topOf sh = s := ⟨_, rfl⟩
      replace hs := Lib.hid hs
      have tok1 : True := trivial
      have hY := Lib.hid (box1 wr (.cells #[.int .i64 a.f0, .int .i64 a.f1, .string a.f2] 36))
      have hS3 := Lib.hid (hS.out.below hY.out.2)
      have hL3 := Lib.hid (Kd.R_below hL.out hY.out.2)
      have hB3 := Lib.hid (hB.out.trans (hY.out.2.mono hB.out.size))
      have y3 := cells3 hY.out.1
      by_cases hd : (doP P s a).2 = 0
      · obtain ⟨x, hx0⟩ : ∃ x, (doP P s a).1 = x := ⟨_, rfl⟩
        have hdx : doP P (topOf sh) a = (x, 0) := by rw [hs.out, ← hx0, ← hd]
        have hdo := Lib.hid (sDo_ok (P := P) hll.out hdx)
        have hrun2 := run_more hrun.out.1 hdx
        replace hdx := Lib.hid hdx
        replace hrun2 := Lib.hid hrun2
        clear hd hx0
        go_wp2_with (first
          | (go_at_call 6; have tq := tok1; go_must (clear tq tok1; refine (wsheet hS3.out hok.out).mono ?_; rw [show (SS.sh ⟨sh, log, []⟩) = sh from rfl, hs.out]; rintro e w4 ⟨u0, u1, rfl, h0, h1, hb, hS4⟩; have Y4 := blk_below hY.out.1 hb; have y4 := cells3 Y4; have R0 := R_mine h0 hS3.out.2 hB3.out.size; have R1 := R_mine h1 hS3.out.2 hB3.out.size; obtain ⟨D0, k0, rfl⟩ := Kd.R_slice R0; obtain ⟨D1, k1, rfl⟩ := Kd.R_slice R1; have hX := box1 w4 (.cells #[.slice D0 s.1.length k0, .slice D1 s.2.1.length k1, .int .i64 s.2.2.1, .bool s.2.2.2] 38); have Y5 := blk_below Y4 hX.2; have y5 := cells3 Y5; have X5 := Lib.hid hX.1; have R05 := Lib.hid (Kd.R_below R0 hX.2); have R15 := Lib.hid (Kd.R_below R1 hX.2); have n5 := Lib.hid (show ¬ own w4.heap.size from fun h => Nat.lt_irrefl _ (hS4.2 _ h)); have hS5 := Lib.hid (hS4.below hX.2); have hL5 := Lib.hid (Kd.R_below (Kd.R_below hL3.out hb) hX.2); have hB5 := Lib.hid (hB3.out.trans ((below_step hb hX.2).mono hB3.out.size)); clear hb hX hS4 h0 h1 R0 R1 Y4 Y5 y4))
          | (go_at_call 7; go_must (refine (wdo (tabs_below hT (below_then hB1.out hm1.out hB5.out)) hS5.out hok.out haz.out).mono ?_; rw [hdo.out]; rintro e w6 ⟨rfl, hS6, hk, hb⟩; have X6 := blk_beside X5.out n5.out hk; have x6 := cells4 X6.1; have R06 := Lib.hid (R_beside R05.out hk); have R16 := Lib.hid (R_beside R15.out hk); have hL6 := Lib.hid (R_beside hL5.out hk); replace hS6 := Lib.hid hS6; have hB6 := Lib.hid (hB5.out.trans hb); clear hk hb))
          | ((with_reducible refine gate_builtin (b := .append) (xs := #[.tmp 50, .tmp 52]) rfl ?_); go_must (at_builtin; refine Kd.R_append kSht (w0 := w1) w1.heap.size rfl (.tmp 50) (.tmp 52) 34 38 (.agg #[.slice none 0 0, .slice none 0 0, .int .i64 0, .bool false]) 64 rfl Tryd.underlying34 (by kernel_rfl) rfl (by decide) (by decide) vL (sh.take log.length) s _ (fun k => ¬ nextOwn own (w4.alloc (.cells #[.slice D0 s.1.length k0, .slice D1 s.2.1.length k1, .int .i64 s.2.2.1, .bool s.2.2.2] 38)) w6 k) (fun k => (¬ nextOwn own (w4.alloc (.cells #[.slice D0 s.1.length k0, .slice D1 s.2.1.length k1, .int .i64 s.2.2.1, .bool s.2.2.2] 38)) w6 k) ∧ some k ≠ vL.ownBlock) rfl rfl (kSht_made (Kd.R_apartR R06.out hL6.out (by decide)) (Kd.R_apartR R16.out hL6.out (by decide))) (fun _ hk => hk) (fun k hk hn => by have := hS6.out.2 k hn; omega) hL6.out hB6.out hB6.out.size (by rw [List.length_take]; have := hll.out; omega) ?_; intro v8 w7 hL7 hB7 hg7 _; have hS7 := Lib.hid (hS6.out.kept (Kept.of_grown (S := fun k => some k = vL.ownBlock) hg7 (Kept.refl _ _) (fun k h => .inl h.symm)) (fun k hk he => hL6.out.1 k he.symm hk)); replace hL7 := Lib.hid hL7; replace hB7 := Lib.hid hB7; clear hg7)))
        have e1 : sh.take log.length ++ [s] = (sh ++ [x]).take (log ++ [a]).length := by
          have h := hrun.out.1.n
          rw [List.length_append, List.length_singleton, ← h, List.take_append_of_le_length (Nat.le_refl _), List.take_length, ← hs.out, topOf_eq (by omega), h, Nat.add_sub_cancel]
          unfold shN
          rw [take_snoc _ (by omega), ← h, List.take_length]
        refine ⟨⟨i + 1, q + 1, _, sh ++ [x], log ++ [a], _, rfl, rfl, Lib.hid ⟨by have := hq.out; omega, hlt.out⟩, hS7, Lib.hid ⟨hrun2.out, by rw [List.length_append, List.length_singleton]; have := hrun.out.2.1; omega, fun t ht => ?_, by rw [shN_snoc (by have := hrun.out.1.n; omega)]; exact hrun.out.2.2.2.1, fun b hb => ?_⟩, Lib.hid (by rw [← e1]; exact hL7.out), hB7⟩, ?_⟩
        · rcases List.mem_append.1 ht with h | h
          · exact hrun.out.2.2.1 t h
          · rw [List.mem_singleton.1 h]; exact doP_right hdx.out
        · rcases List.mem_append.1 hb with h | h
          · exact hrun.out.2.2.2.2 b h
          · rw [List.mem_singleton.1 h]; exact haz.out
        · simp only [intOf]; have := hq.out; have := hlt.out; omega
      · have hdo := Lib.hid (sDo_no (P := P) (sh := sh) (log := log) (a := a) hll.out (by rw [hs.out]; exact hd))
        rw [hs.out] at hdo
        have te : ((doP P s a).2 == 0) = false := by simpa using hd
        clear hd
        go_wp2_with (first
          | (go_at_call 6; have tq := tok1; go_must (clear tq tok1; refine (wsheet hS3.out hok.out).mono ?_; rw [show (SS.sh ⟨sh, log, []⟩) = sh from rfl, hs.out]; rintro e w4 ⟨u0, u1, rfl, h0, h1, hb, hS4⟩; have Y4 := blk_below hY.out.1 hb; have y4 := cells3 Y4; have R0 := R_mine h0 hS3.out.2 hB3.out.size; have R1 := R_mine h1 hS3.out.2 hB3.out.size; obtain ⟨D0, k0, rfl⟩ := Kd.R_slice R0; obtain ⟨D1, k1, rfl⟩ := Kd.R_slice R1; have hX := box1 w4 (.cells #[.slice D0 s.1.length k0, .slice D1 s.2.1.length k1, .int .i64 s.2.2.1, .bool s.2.2.2] 38); have Y5 := blk_below Y4 hX.2; have y5 := cells3 Y5; have X5 := Lib.hid hX.1; have R05 := Lib.hid (Kd.R_below R0 hX.2); have R15 := Lib.hid (Kd.R_below R1 hX.2); have n5 := Lib.hid (show ¬ own w4.heap.size from fun h => Nat.lt_irrefl _ (hS4.2 _ h)); have hS5 := Lib.hid (hS4.below hX.2); have hL5 := Lib.hid (Kd.R_below (Kd.R_below hL3.out hb) hX.2); have hB5 := Lib.hid (hB3.out.trans ((below_step hb hX.2).mono hB3.out.size)); clear hb hX hS4 h0 h1 R0 R1 Y4 Y5 y4))
          | (go_at_call 7; go_must (refine (wdo (tabs_below hT (below_then hB1.out hm1.out hB5.out)) hS5.out hok.out haz.out).mono ?_; rw [hdo.out]; rintro e w6 ⟨rfl, hS6, hk, hb⟩; have X6 := blk_beside X5.out n5.out hk; have x6 := cells4 X6.1; have R06 := Lib.hid (R_beside R05.out hk); have R16 := Lib.hid (R_beside R15.out hk); have hL6 := Lib.hid (R_beside hL5.out hk); replace hS6 := Lib.hid hS6; have hB6 := Lib.hid (hB5.out.trans hb); clear hk hb)))
        refine start_ (n := 5) (S := fun w' => w'.heap[w4.heap.size]? = some (.cells #[.slice D0 s.1.length k0, .slice D1 s.2.1.length k1, .int .i64 s.2.2.1, .bool s.2.2.2] 38 (0, 0))) (ds := [3]) #[false, false, false, false, false] (by kernel_rfl) rfl rfl (blk_drew X6.1) (fun hHeld => ?_)
        replace X6 := And.intro (blk_drew X6.1) X6.2
        replace hS6 := Lib.hid (hS6.out.below (below_drew (Below.refl _ _)))
        replace hL6 := Lib.hid (Kd.R_drew hL6.out)
        replace R06 := Lib.hid (Kd.R_drew R06.out)
        replace R16 := Lib.hid (Kd.R_drew R16.out)
        replace hB6 := Lib.hid (below_drew hB6.out)
        obtain ⟨own6, ho6⟩ : ∃ o, nextOwn own (w4.alloc (.cells #[.slice D0 s.1.length k0, .slice D1 s.2.1.length k1, .int .i64 s.2.2.1, .bool s.2.2.2] 38)) w6 = o := ⟨_, rfl⟩
        rw [ho6] at hS6 hL6 R06 R16 X6
        clear ho6
        generalize w6.drew = w7 at X6 hS6 hL6 R06 R16 hB6 hHeld ⊢
        refine take_ (i := 0) (N := some 54) (v := ?_) (a' := ?_) #[true, false, false, false, false] rfl rfl (by kernel_rfl) (fun _ _ _ h => h) (Or.inl ⟨by rfl, ?_⟩) hHeld ?_ ?_
        rotate_left
        · rintro w' s0; have q0 := cells4 s0; clear s0; go_simp; with_reducible rfl
        rotate_left
        · simp only [Act.put, List.setIfInBounds_toArray, List.set_cons_zero, List.set_cons_succ, i64_w, i32_w]; rfl
        refine pure_ (i := 1) (N := some 55) (v := ?_) (a' := ?_) #[true, true, false, false, false] rfl rfl (by kernel_rfl) (fun _ _ _ h => h) (Or.inl ⟨by rfl, ?_⟩) ?_ ?_
        rotate_left
        · intro w'; go_simp; with_reducible rfl
        rotate_left
        · simp only [Act.put, List.setIfInBounds_toArray, List.set_cons_zero, List.set_cons_succ, i64_w, i32_w]; rfl
        refine one_ (i := 2) (N := some 56) #[true, true, true, false, false] rfl rfl (by kernel_rfl) (by decide) (fun K hK => ?_)
        refine goes_ Tryd.func6 (by kernel_rfl) rfl #[.pointer (some ⟨g, 0, none⟩)] (by rfl) rfl rfl (by first | (go_simp; done) | (go_simp; rfl)) ?_
        refine (wsheet hS6.out hok.out).mono ?_
        rw [show (SS.sh ⟨sh, log, []⟩) = sh from rfl, hs.out]
        rintro e w8 ⟨u2, u3, rfl, h0, h1, hb, hS8⟩
        refine ⟨_, rfl, ?_⟩
        obtain ⟨D2, k2, rfl⟩ := Kd.R_slice h0
        obtain ⟨D3, k3, rfl⟩ := Kd.R_slice h1
        have R08 := Kd.R_below R06.out hb
        have R18 := Kd.R_below R16.out hb
        have hL8 := Kd.R_below hL6.out hb
        have hB8 := hB6.out.trans (hb.mono hB6.out.size)
        have X8 := blk_below X6.1 hb
        clear hb
        refine hK.out _ _ (X8) (fun hHeld => ?_)
        clear hK K
        refine norm_ (a' := ?_) ?_ ?_
        rotate_left
        · show Act.put _ (some 56) _ = _
          simp only [Act.put, List.setIfInBounds_toArray, List.set_cons_zero, List.set_cons_succ, i64_w, i32_w]; rfl
        refine last_ (i := 3) (N := some 57) #[true, true, true, true, false] rfl rfl (by kernel_rfl) (by decide) (fun K hK => ?_)
        refine goes_ Tryd.func8 (by kernel_rfl) rfl #[.agg #[.slice D0 s.1.length k0, .slice D1 s.2.1.length k1, .int .i64 s.2.2.1, .bool s.2.2.2], .agg #[.slice D2 s.1.length k2, .slice D3 s.2.1.length k3, .int .i64 s.2.2.1, .bool s.2.2.2]] (by rfl) rfl rfl (by first | (go_simp; done) | (go_simp; rfl)) ?_
        have hss := hok.out.top
        rw [show topOf (SS.sh ⟨sh, log, []⟩) = s from hs.out] at hss
        refine (rebusref23_Same.calls hss.l hss.m (shtR_of R08 R18) (shtR_of h0 h1)).mono ?_
        rintro e w9 ⟨rfl, hb⟩
        refine ⟨_, rfl, ?_⟩
        have hS9 := Lib.hid (hS8.below hb)
        have hL9 := Lib.hid (Kd.R_below hL8 hb)
        have hB9 := Lib.hid (hB8.trans (hb.mono hB8.size))
        clear hb hss R08 R18 h0 h1 hL8 hB8 X8 hS8
        refine hK.out _ _ ?_
        clear hK K
        refine norm_ (a' := ?_) ?_ ?_
        rotate_left
        · show Act.put _ (some 57) _ = _
          simp only [Act.put, List.setIfInBounds_toArray, List.set_cons_zero, List.set_cons_succ, i64_w, i32_w]; rfl
        refine pure_ (i := 4) (N := some 58) (v := ?_) (a' := ?_) #[true, true, true, true, true] rfl rfl (by kernel_rfl) (fun _ _ _ h => h) (Or.inl ⟨by rfl, ?_⟩) ?_ ?_
        rotate_left
        · intro w'; go_simp; with_reducible rfl
        rotate_left
        · simp only [Act.put, List.setIfInBounds_toArray, List.set_cons_zero, List.set_cons_succ, i64_w, i32_w]; rfl
        refine done_ (by kernel_rfl) ?_
        go_wp2
        refine ⟨⟨i + 1, q + 1, _, sh, log, _, rfl, rfl, Lib.hid ⟨by have := hq.out; omega, hlt.out⟩, hS9, Lib.hid ⟨hrun.out.1, by have := hrun.out.2.1; omega, hrun.out.2.2.1, hrun.out.2.2.2.1, hrun.out.2.2.2.2⟩, hL9, hB9⟩, ?_⟩
        simp only [intOf]; have := hq.out; have := hlt.out; omega
    · have hi : i = n := by have := hq.out; omega
      obtain ⟨sl, hsl⟩ : ∃ s, topOf sh = s := ⟨_, rfl⟩
      replace hsl := Lib.hid hsl
      have hnl := Lib.hid (show log.length ≤ 60 by have := hrun.out.2.1; have := hn1.out; omega)
      have hok := Lib.hid (ses_ok hzP.out hrun.out.1 hnl.out hrun.out.2.2.1)
      have hLl : (sh.take log.length).length = log.length := by have := hrun.out.1.n; rw [List.length_take]; omega
      obtain ⟨AL, cL, rfl⟩ := Kd.R_slice hL.out
      rw [hLl] at hL ⊢
      replace hLl := Lib.hid hLl
      have tok1 : True := trivial
      by_cases hc : i < acts.length
      have hq1 : q < (acts.length : Int) := by have := hq.out; omega
      have hq2 : (q == 60) = true := by have := hq.out; have := hn1.out; simp; omega
      obtain ⟨ad, eA, z0, z1, z2⟩ := at_T36 (Kd.C_below hA (below_then hB1.out hm1.out hB.out)) q hq0 hq1
      cases eA
      obtain ⟨a, ha⟩ : ∃ a, rd_T36 acts q = a := ⟨_, rfl⟩
      rw [ha] at z0 z1 z2
      clear ha
      have hY := box1 wr (.cells #[.int .i64 a.f0, .int .i64 a.f1, .string a.f2] 36)
      have hS3 := Lib.hid (hS.out.below hY.2)
      have hL3 := Lib.hid (Kd.R_below hL.out hY.2)
      have hB3 := Lib.hid (hB.out.trans (hY.2.mono hB.out.size))
      clear hY
      rotate_left
      have hq1 : decide (q < (acts.length : Int)) = false := decide_eq_false (by have := hq.out; omega)
      have hS3 := hS
      have hL3 := hL
      have hB3 := hB
      all_goals clear hc
      all_goals (go_wp2_with (first
        | (go_at_call 6; have tq := tok1; go_must (clear tq tok1; refine (wsheet hS3.out hok.out).mono ?_; rw [show (SS.sh ⟨sh, log, []⟩) = sh from rfl, hsl.out]; rintro e w4 ⟨u0, u1, rfl, h0, h1, hb, hS4⟩; have R0 := R_mine h0 hS3.out.2 hB3.out.size; have R1 := R_mine h1 hS3.out.2 hB3.out.size; obtain ⟨D0, k0, rfl⟩ := Kd.R_slice R0; obtain ⟨D1, k1, rfl⟩ := Kd.R_slice R1; have hL4 := Lib.hid (Kd.R_below hL3.out hb); have hB4 := Lib.hid (hB3.out.trans (hb.mono hB3.out.size)); replace hS4 := Lib.hid hS4; replace R0 := Lib.hid R0; replace R1 := Lib.hid R1; clear hb h0 h1))
        | (go_at_call 9; go_must (refine (wlog hS4.out hok.out).mono ?_; rw [show (SS.log ⟨sh, log, []⟩) = log from rfl]; rintro e w5 ⟨ul, rfl, hl, hb, hS5⟩; have RG := R_mine hl hS4.out.2 hB4.out.size; obtain ⟨Dl, kl, rfl⟩ := Kd.R_slice RG; have hX := box1 w5 (.cells #[.slice D0 sl.1.length k0, .slice D1 sl.2.1.length k1, .int .i64 sl.2.2.1, .bool sl.2.2.2] 38); have SX6 := Lib.hid (SBox.mk hX.1 (fun h => Nat.lt_irrefl _ (hS5.2 _ h)) (Kd.R_below (Kd.R_below R0.out hb) hX.2) (Kd.R_below (Kd.R_below R1.out hb) hX.2)); have RG6 := Lib.hid (Kd.R_below RG hX.2); have hL6 := Lib.hid (Kd.R_below (Kd.R_below hL4.out hb) hX.2); have hS6 := Lib.hid (hS5.below hX.2); have hB6 := Lib.hid (hB4.out.trans ((below_step hb hX.2).mono hB4.out.size)); have bP6 := cells8 (blk_below bP.out hB6.out); clear hb hX hl hS5 RG R0 R1))
        | (go_at_call 10; go_must (have hst := start_calls (H := H) (W := W) (tabs_below hT (below_then hB1.out hm1.out hB6.out)) (hP.below (below_then hB1.out hm1.out hB6.out)) hz; rw [hr, hrr.out] at hst; unfold DoPost at hst; dsimp only at hst; refine hst.mono ?_; clear hst; rintro e w7 ⟨u2, u3, rfl, ho0, ho1, hb⟩; have R2 := R_mine ho0 hS6.out.2 hB6.out.size; have R3 := R_mine ho1 hS6.out.2 hB6.out.size; obtain ⟨D2, k2, rfl⟩ := Kd.R_slice R2; obtain ⟨D3, k3, rfl⟩ := Kd.R_slice R3; have hX := box1 w7 (.cells #[.slice D2 s0.1.length k2, .slice D3 s0.2.1.length k3, .int .i64 s0.2.2.1, .bool s0.2.2.2] 38); have hS7 := hS6.out.below hb; have hW8 := Lib.hid (SideW.mk (Kd.R_below (Kd.R_below hL6.out hb) hX.2) (Kd.R_below (Kd.R_below RG6.out hb) hX.2) ((SX6.out.below hb).below hX.2) (SBox.mk hX.1 (fun h => Nat.lt_irrefl _ (hS7.2 _ h)) (Kd.R_below R2 hX.2) (Kd.R_below R3 hX.2))); have hS8 := Lib.hid (hS7.below hX.2); have hB8 := Lib.hid (hB6.out.trans ((below_step hb hX.2).mono hB6.out.size)); clear hb hX ho0 ho1 hS7 R2 R3))))
      all_goals (
        clear hS hL hB hS3 hL3 hB3 hS4 hL4 hB4 RG6 SX6 hL6 hS6 hB6 bP6 hi hq1
        obtain ⟨b11, hb11⟩ : ∃ b, w5.heap.size = b := ⟨_, rfl⟩
        obtain ⟨b13, hb13⟩ : ∃ b, w7.heap.size = b := ⟨_, rfl⟩
        rw [hb11, hb13] at hW8
        rw [hb11, hb13]
        clear hb11 hb13
        generalize w7.alloc (.cells #[.slice D2 s0.1.length k2, .slice D3 s0.2.1.length k3, .int .i64 s0.2.2.1, .bool s0.2.2.2] 38) = w8 at hW8 hS8 hB8 ⊢
        rw [w64 (show -9223372036854775808 ≤ (log.length : Int) - 1 by omega) (by have := hnl.out; omega)]
        go_loopw [15] (fun v15 wr => ∃ (k : Nat) (q : Int) (own : Nat → Prop), v15 = .int .i64 q ∧ Hid (q = (k : Int) - 1 ∧ k ≤ log.length) ∧ Hid (SesT own wr w1.heap.size g P (stU sh log k)) ∧ Hid (SideW own wr w1.heap.size (.slice AL log.length cL) (sh.take log.length) (.slice Dl log.length kl) log b11 b13 sl s0 D0 k0 D1 k1 D2 k2 D3 k3) ∧ Hid (Below w1.heap.size w1 wr)) (fun v15 _ => (intOf v15 + 1).toNat)
        case atStart => exact ⟨log.length, _, own, rfl, Lib.hid ⟨rfl, Nat.le_refl _⟩, Lib.hid (by rw [stU_all hrun.out.1]; exact hS8.out), hW8, hB8⟩
        case round =>
          clear hS8 hW8 hB8
          obtain ⟨k, q2, own3, rfl, hq2, hS, hW, hB⟩ := hrel
          cases k with
          | succ k =>
            obtain rfl : q2 = (k : Int) := by have := hq2.out; omega
            have hk : k < log.length := by have := hq2.out; omega
            have tge : decide (0 ≤ (k : Int)) = true := decide_eq_true (by omega)
            have hkt : (k : Int) < (log.length : Int) := by omega
            have hkl : (k : Int) < 100 := by have := hnl.out; omega
            obtain ⟨ad, eA, _⟩ := (Kd.R_reads' hW.out.l).2.2.2.2 (by rw [hLl.out]; omega)
            subst eA
            obtain ⟨A7, c7, A8, c8, z0, z1, z2, z3, q7, q8⟩ := at_shtR (Kd.R_drew hW.out.l) (k : Int) (by omega) hkt
            obtain ⟨x, hx⟩ : ∃ x, rdSht (sh.take log.length) (k : Int) = x := ⟨_, rfl⟩
            have hxk : shN sh k = x := by rw [← hx]; unfold rdSht; rw [Int.toNat_natCast]; exact (shN_take hk).symm
            rw [hx] at z0 z1 z2 z3 q7 q8
            clear hx
            have hok1 := Lib.hid (st_ok hzP.out hrun.out.1 hnl.out hrun.out.2.2.1 hrun.out.2.2.2.2 (k + 1))
            have hok0 := Lib.hid (st_ok hzP.out hrun.out.1 hnl.out hrun.out.2.2.1 hrun.out.2.2.2.2 k)
            have hun := Lib.hid (undo_st hrun.out.1 hk)
            have htop := Lib.hid ((top_st hrun.out.1 (Nat.le_of_lt hk)).trans hxk)
            have hon := Lib.hid (on_st sh log k)
            have hxs := Lib.hid ((hrun.out.2.2.1 x (by rw [← hxk]; exact shN_mem (by have := hrun.out.1.n; omega))).small hzP.out.l)
            clear hxk
            have hw1 : wrap64 ((log.length : Int) - (k : Int)) = ((log.length - k : Nat) : Int) := by rw [w64 (by omega) (by have := hnl.out; omega)]; omega
            have tx : (((log.length - k : Nat) : Int) != ((log.length - k : Nat) : Int)) = false := by simp
            have nown : ∀ m, ¬ own3 (ad.add m).block := fun m => by rw [addr_block]; exact hW.out.l.1 ad.block rfl
            rw [Int.toNat_natCast] at z0 z1 z2 z3
            go_wp2
            refine start_ (n := 22) (S := fun w' => w'.cell? (ad.add (k * 4)) = some (.slice A7 x.1.length c7) ∧ w'.cell? ⟨(ad.add (k * 4)).block, (ad.add (k * 4)).off + 1, none⟩ = some (.slice A8 x.2.1.length c8) ∧ w'.cell? ⟨(ad.add (k * 4)).block, (ad.add (k * 4)).off + 2, none⟩ = some (.int .i64 x.2.2.1) ∧ w'.cell? ⟨(ad.add (k * 4)).block, (ad.add (k * 4)).off + 3, none⟩ = some (.bool x.2.2.2)) (ds := []) #[false, false, false, false, false, false, false, false, false, false, false, false, false, false, false, false, false, false, false, false, false, false] (by kernel_rfl) rfl rfl (⟨z0, z1, z2, z3⟩) (fun hHeld => ?_)
            replace hS := Lib.hid (hS.out.below (below_drew (Below.refl _ _)))
            replace hW := Lib.hid (hW.out.below (below_drew (Below.refl _ _)))
            replace hB := Lib.hid (below_drew hB.out)
            generalize wr.drew = w2 at hS hW hB z0 z1 z2 z3 q7 q8 hHeld ⊢
            refine pure_ (i := 0) (N := some 81) (v := ?_) (a' := ?_) #[true, false, false, false, false, false, false, false, false, false, false, false, false, false, false, false, false, false, false, false, false, false] rfl rfl (by kernel_rfl) (fun _ _ _ h => h) (Or.inl ⟨by rfl, ?_⟩) ?_ ?_
            rotate_left
            · intro w'; go_simp; with_reducible rfl
            rotate_left
            · simp only [Act.put, List.setIfInBounds_toArray, List.set_cons_zero, List.set_cons_succ, i64_w, i32_w]; rfl
            refine one_ (i := 1) (N := some 82) #[true, true, false, false, false, false, false, false, false, false, false, false, false, false, false, false, false, false, false, false, false, false] rfl rfl (by kernel_rfl) (by decide) (fun K hK => ?_)
            refine goes_ Tryd.func11 (by kernel_rfl) rfl #[.pointer (some ⟨g, 0, none⟩)] (by rfl) rfl rfl (by first | (go_simp; done) | (go_simp; rfl)) ?_
            refine (wundo hS.out hok1.out).mono ?_
            rw [hun.out]
            rintro e w3 ⟨rfl, hS3, hk3, hb3⟩
            refine ⟨_, rfl, ?_⟩
            have hW3 := hW.out.beside hk3
            have q73 := R_beside q7 hk3
            have q83 := R_beside q8 hk3
            have hB3 := hB.out.trans hb3
            have y0 := cell_side z0 hk3 (nown _)
            have y1 := cell_side z1 hk3 (nown _)
            have y2 := cell_side z2 hk3 (nown _)
            have y3 := cell_side z3 hk3 (nown _)
            obtain ⟨own4, ho4⟩ : ∃ o, nextOwn own3 w2 w3 = o := ⟨_, rfl⟩
            rw [ho4] at hS3 hW3 q73 q83
            clear ho4 hk3 hb3 z0 z1 z2 z3 q7 q8 nown hS hW hB
            refine hK.out _ _ (⟨y0, y1, y2, y3⟩) (fun hHeld => ?_)
            clear hK K
            refine norm_ (a' := ?_) ?_ ?_
            rotate_left
            · show Act.put _ (some 82) _ = _
              simp only [Act.put, List.setIfInBounds_toArray, List.set_cons_zero, List.set_cons_succ, i64_w, i32_w]; rfl
            refine pure_ (i := 2) (N := some 83) (v := ?_) (a' := ?_) #[true, true, true, false, false, false, false, false, false, false, false, false, false, false, false, false, false, false, false, false, false, false] rfl rfl (by kernel_rfl) (fun _ _ _ h => h) (Or.inl ⟨by rfl, ?_⟩) ?_ ?_
            rotate_left
            · intro w'; go_simp; with_reducible rfl
            rotate_left
            · simp only [Act.put, List.setIfInBounds_toArray, List.set_cons_zero, List.set_cons_succ, i64_w, i32_w]; rfl
            refine pure_ (i := 3) (N := some 84) (v := ?_) (a' := ?_) #[true, true, true, true, false, false, false, false, false, false, false, false, false, false, false, false, false, false, false, false, false, false] rfl rfl (by kernel_rfl) (fun _ _ _ h => h) (Or.inl ⟨by rfl, ?_⟩) ?_ ?_
            rotate_left
            · intro w'; go_simp; with_reducible rfl
            rotate_left
            · simp only [Act.put, List.setIfInBounds_toArray, List.set_cons_zero, List.set_cons_succ, i64_w, i32_w]; rfl
            refine pure_ (i := 4) (N := some 85) (v := ?_) (a' := ?_) #[true, true, true, true, true, false, false, false, false, false, false, false, false, false, false, false, false, false, false, false, false, false] rfl rfl (by kernel_rfl) (fun _ _ _ h => h) (Or.inl ⟨by rfl, ?_⟩) ?_ ?_
            rotate_left
            · intro w'; go_simp; with_reducible rfl
            rotate_left
            · simp only [Act.put, List.setIfInBounds_toArray, List.set_cons_zero, List.set_cons_succ, i64_w, i32_w]; rfl
            refine pure_ (i := 6) (N := some 87) (v := ?_) (a' := ?_) #[true, true, true, true, true, false, true, false, false, false, false, false, false, false, false, false, false, false, false, false, false, false] rfl rfl (by kernel_rfl) (fun _ _ _ h => h) (Or.inl ⟨by rfl, ?_⟩) ?_ ?_
            rotate_left
            · intro w'; go_simp; with_reducible rfl
            rotate_left
            · simp only [Act.put, List.setIfInBounds_toArray, List.set_cons_zero, List.set_cons_succ, i64_w, i32_w]; rfl
            refine pure_ (i := 7) (N := some 88) (v := ?_) (a' := ?_) #[true, true, true, true, true, false, true, true, false, false, false, false, false, false, false, false, false, false, false, false, false, false] rfl rfl (by kernel_rfl) (fun _ _ _ h => h) (Or.inl ⟨by rfl, ?_⟩) ?_ ?_
            rotate_left
            · intro w'; go_simp; with_reducible rfl
            rotate_left
            · simp only [Act.put, List.setIfInBounds_toArray, List.set_cons_zero, List.set_cons_succ, i64_w, i32_w]; rfl
            refine pure_ (i := 8) (N := some 89) (v := ?_) (a' := ?_) #[true, true, true, true, true, false, true, true, true, false, false, false, false, false, false, false, false, false, false, false, false, false] rfl rfl (by kernel_rfl) (fun _ _ _ h => h) (Or.inl ⟨by rfl, ?_⟩) ?_ ?_
            rotate_left
            · intro w'; go_simp; with_reducible rfl
            rotate_left
            · simp only [Act.put, List.setIfInBounds_toArray, List.set_cons_zero, List.set_cons_succ, i64_w, i32_w]; rfl
            refine take_ (i := 9) (N := some 90) (v := ?_) (a' := ?_) #[true, true, true, true, true, false, true, true, true, true, false, false, false, false, false, false, false, false, false, false, false, false] rfl rfl (by kernel_rfl) (fun _ _ _ h => h) (Or.inl ⟨by rfl, ?_⟩) hHeld ?_ ?_
            rotate_left
            · rintro w' ⟨s0, s1, s2, s3⟩; go_simp; with_reducible rfl
            rotate_left
            · simp only [Act.put, List.setIfInBounds_toArray, List.set_cons_zero, List.set_cons_succ, i64_w, i32_w]; rfl
            refine one_ (i := 5) (N := some 86) #[true, true, true, true, true, true, true, true, true, true, false, false, false, false, false, false, false, false, false, false, false, false] rfl rfl (by kernel_rfl) (by decide) (fun K hK => ?_)
            refine goes_ Tryd.func6 (by kernel_rfl) rfl #[.pointer (some ⟨g, 0, none⟩)] (by rfl) rfl rfl (by first | (go_simp; done) | (go_simp; rfl)) ?_
            refine (wsheet hS3 hok0.out).mono ?_
            rw [htop.out]
            rintro e w5 ⟨u4, u5, rfl, h0, h1, hb, hS5⟩
            refine ⟨_, rfl, ?_⟩
            obtain ⟨D4, k4, rfl⟩ := Kd.R_slice h0
            obtain ⟨D5, k5, rfl⟩ := Kd.R_slice h1
            replace hW3 := hW3.below hb
            replace q73 := Kd.R_below q73 hb
            replace q83 := Kd.R_below q83 hb
            have hB5 := hB3.trans (hb.mono hB3.size)
            replace y0 := pw_cell_below hb y0
            replace y1 := pw_cell_below hb y1
            replace y2 := pw_cell_below hb y2
            replace y3 := pw_cell_below hb y3
            clear hb hS3 hB3
            refine hK.out _ _ (⟨y0, y1, y2, y3⟩) (fun hHeld => ?_)
            clear hK K
            refine norm_ (a' := ?_) ?_ ?_
            rotate_left
            · show Act.put _ (some 86) _ = _
              simp only [Act.put, List.setIfInBounds_toArray, List.set_cons_zero, List.set_cons_succ, i64_w, i32_w]; rfl
            refine one_ (i := 10) (N := some 91) #[true, true, true, true, true, true, true, true, true, true, true, false, false, false, false, false, false, false, false, false, false, false] rfl rfl (by kernel_rfl) (by decide) (fun K hK => ?_)
            refine goes_ Tryd.func8 (by kernel_rfl) rfl #[.agg #[.slice D4 x.1.length k4, .slice D5 x.2.1.length k5, .int .i64 x.2.2.1, .bool x.2.2.2], .agg #[.slice A7 x.1.length c7, .slice A8 x.2.1.length c8, .int .i64 x.2.2.1, .bool x.2.2.2]] (by rfl) rfl rfl (by first | (go_simp; done) | (go_simp; rfl)) ?_
            refine (rebusref23_Same.calls hxs.out.l hxs.out.m (shtR_of h0 h1) (shtR_of q73 q83)).mono ?_
            rintro e w6 ⟨rfl, hb⟩
            refine ⟨_, rfl, ?_⟩
            have hS6 := hS5.below hb
            replace hW3 := hW3.below hb
            have hB6 := hB5.trans (hb.mono hB5.size)
            replace y0 := pw_cell_below hb y0
            replace y1 := pw_cell_below hb y1
            replace y2 := pw_cell_below hb y2
            replace y3 := pw_cell_below hb y3
            clear hb q73 q83 h0 h1 hS5 hB5
            refine hK.out _ _ (⟨y0, y1, y2, y3⟩) (fun hHeld => ?_)
            clear hK K
            refine norm_ (a' := ?_) ?_ ?_
            rotate_left
            · show Act.put _ (some 91) _ = _
              simp only [Act.put, List.setIfInBounds_toArray, List.set_cons_zero, List.set_cons_succ, i64_w, i32_w]; rfl
            refine pure_ (i := 11) (N := some 92) (v := ?_) (a' := ?_) #[true, true, true, true, true, true, true, true, true, true, true, true, false, false, false, false, false, false, false, false, false, false] rfl rfl (by kernel_rfl) (fun _ _ _ h => h) (Or.inl ⟨by rfl, ?_⟩) ?_ ?_
            rotate_left
            · intro w'; go_simp; with_reducible rfl
            rotate_left
            · simp only [Act.put, List.setIfInBounds_toArray, List.set_cons_zero, List.set_cons_succ, i64_w, i32_w]; rfl
            refine pure_ (i := 12) (N := some 93) (v := ?_) (a' := ?_) #[true, true, true, true, true, true, true, true, true, true, true, true, true, false, false, false, false, false, false, false, false, false] rfl rfl (by kernel_rfl) (fun _ _ _ h => h) (Or.inl ⟨by rfl, ?_⟩) ?_ ?_
            rotate_left
            · intro w'; go_simp; with_reducible rfl
            rotate_left
            · simp only [Act.put, List.setIfInBounds_toArray, List.set_cons_zero, List.set_cons_succ, i64_w, i32_w]; rfl
            refine pure_ (i := 13) (N := some 94) (v := ?_) (a' := ?_) #[true, true, true, true, true, true, true, true, true, true, true, true, true, true, false, false, false, false, false, false, false, false] rfl rfl (by kernel_rfl) (fun _ _ _ h => h) (Or.inl ⟨by rfl, ?_⟩) ?_ ?_
            rotate_left
            · intro w'; go_simp; with_reducible rfl
            rotate_left
            · simp only [Act.put, List.setIfInBounds_toArray, List.set_cons_zero, List.set_cons_succ, i64_w, i32_w]; rfl
            refine pure_ (i := 14) (N := some 95) (v := ?_) (a' := ?_) #[true, true, true, true, true, true, true, true, true, true, true, true, true, true, true, false, false, false, false, false, false, false] rfl rfl (by kernel_rfl) (fun _ _ _ h => h) (Or.inl ⟨by rfl, ?_⟩) ?_ ?_
            rotate_left
            · intro w'; go_simp; with_reducible rfl
            rotate_left
            · simp only [Act.put, List.setIfInBounds_toArray, List.set_cons_zero, List.set_cons_succ, i64_w, i32_w]; rfl
            refine pure_ (i := 16) (N := some 97) (v := ?_) (a' := ?_) #[true, true, true, true, true, true, true, true, true, true, true, true, true, true, true, false, true, false, false, false, false, false] rfl rfl (by kernel_rfl) (fun _ _ _ h => h) (Or.inl ⟨by rfl, ?_⟩) ?_ ?_
            rotate_left
            · intro w'; go_simp; with_reducible rfl
            rotate_left
            · simp only [Act.put, List.setIfInBounds_toArray, List.set_cons_zero, List.set_cons_succ, i64_w, i32_w]; rfl
            refine pure_ (i := 17) (N := some 98) (v := ?_) (a' := ?_) #[true, true, true, true, true, true, true, true, true, true, true, true, true, true, true, false, true, true, false, false, false, false] rfl rfl (by kernel_rfl) (fun _ _ _ h => h) (Or.inl ⟨by rfl, ?_⟩) ?_ ?_
            rotate_left
            · intro w'; go_simp; with_reducible rfl
            rotate_left
            · simp only [Act.put, List.setIfInBounds_toArray, List.set_cons_zero, List.set_cons_succ, i64_w, i32_w]; rfl
            refine pure_ (i := 18) (N := some 99) (v := ?_) (a' := ?_) #[true, true, true, true, true, true, true, true, true, true, true, true, true, true, true, false, true, true, true, false, false, false] rfl rfl (by kernel_rfl) (fun _ _ _ h => h) (Or.inl ⟨by rfl, ?_⟩) ?_ ?_
            rotate_left
            · intro w'; go_simp; with_reducible rfl
            rotate_left
            · simp only [Act.put, List.setIfInBounds_toArray, List.set_cons_zero, List.set_cons_succ, i64_w, i32_w]; rfl
            refine pure_ (i := 19) (N := some 100) (v := ?_) (a' := ?_) #[true, true, true, true, true, true, true, true, true, true, true, true, true, true, true, false, true, true, true, true, false, false] rfl rfl (by kernel_rfl) (fun _ _ _ h => h) (Or.inl ⟨by rfl, ?_⟩) ?_ ?_
            rotate_left
            · intro w'; go_simp; with_reducible rfl
            rotate_left
            · simp only [Act.put, List.setIfInBounds_toArray, List.set_cons_zero, List.set_cons_succ, i64_w, i32_w]; rfl
            rw [hw1]
            refine one_ (i := 15) (N := some 96) #[true, true, true, true, true, true, true, true, true, true, true, true, true, true, true, true, true, true, true, true, false, false] rfl rfl (by kernel_rfl) (by decide) (fun K hK => ?_)
            refine goes_ Tryd.func12 (by kernel_rfl) rfl #[.pointer (some ⟨g, 0, none⟩)] (by rfl) rfl rfl (by first | (go_simp; done) | (go_simp; rfl)) ?_
            refine (won hS6).mono ?_
            rw [hon.out]
            rintro e w7 ⟨rfl, hb, hS7⟩
            refine ⟨_, rfl, ?_⟩
            have hW7 := Lib.hid (hW3.below hb)
            have hB7 := Lib.hid (hB6.trans (hb.mono hB6.size))
            replace hS7 := Lib.hid hS7
            replace y0 := pw_cell_below hb y0
            replace y1 := pw_cell_below hb y1
            replace y2 := pw_cell_below hb y2
            replace y3 := pw_cell_below hb y3
            clear hb hW3 hS6 hB6
            refine hK.out _ _ (⟨y0, y1, y2, y3⟩) (fun hHeld => ?_)
            clear hK K
            refine norm_ (a' := ?_) ?_ ?_
            rotate_left
            · show Act.put _ (some 96) _ = _
              simp only [Act.put, List.setIfInBounds_toArray, List.set_cons_zero, List.set_cons_succ, i64_w, i32_w]; rfl
            clear y0 y1 y2 y3
            refine pure_ (i := 20) (N := some 101) (v := ?_) (a' := ?_) #[true, true, true, true, true, true, true, true, true, true, true, true, true, true, true, true, true, true, true, true, true, false] rfl rfl (by kernel_rfl) (fun _ _ _ h => h) (Or.inl ⟨by rfl, ?_⟩) ?_ ?_
            rotate_left
            · intro w'; go_simp; with_reducible rfl
            rotate_left
            · simp only [Act.put, List.setIfInBounds_toArray, List.set_cons_zero, List.set_cons_succ, i64_w, i32_w]; rfl
            refine pure_ (i := 21) (N := some 102) (v := ?_) (a' := ?_) #[true, true, true, true, true, true, true, true, true, true, true, true, true, true, true, true, true, true, true, true, true, true] rfl rfl (by kernel_rfl) (fun _ _ _ h => h) (Or.inl ⟨by rfl, ?_⟩) ?_ ?_
            rotate_left
            · intro w'; go_simp; with_reducible rfl
            rotate_left
            · simp only [Act.put, List.setIfInBounds_toArray, List.set_cons_zero, List.set_cons_succ, i64_w, i32_w]; rfl
            refine done_ (by kernel_rfl) ?_
            go_wp2
            refine ⟨⟨k, _, own4, rfl, Lib.hid ⟨rfl, by omega⟩, hS7, hW7, hB7⟩, ?_⟩
            simp only [intOf]; omega
          | zero =>
            obtain rfl : q2 = -1 := by have := hq2.out; omega
            have hok0 := Lib.hid (st_ok hzP.out hrun.out.1 hnl.out hrun.out.2.2.1 hrun.out.2.2.2.2 0)
            have hun := Lib.hid (undo_0 (sh := sh) (log := log))
            have htop := Lib.hid ((top_st hrun.out.1 (Nat.zero_le _)).trans hrun.out.2.2.2.1)
            have hxs := Lib.hid (hrs.out.small hzP.out.l)
            go_wp2
            refine start_ (n := 10) (S := fun w' => w'.heap[b13]? = some (.cells #[.slice D2 s0.1.length k2, .slice D3 s0.2.1.length k3, .int .i64 s0.2.2.1, .bool s0.2.2.2] 38 (0, 0))) (ds := []) #[false, false, false, false, false, false, false, false, false, false] (by kernel_rfl) rfl rfl (blk_drew hW.out.y.bx) (fun hHeld => ?_)
            replace hS := Lib.hid (hS.out.below (below_drew (Below.refl _ _)))
            replace hW := Lib.hid (hW.out.below (below_drew (Below.refl _ _)))
            replace hB := Lib.hid (below_drew hB.out)
            generalize wr.drew = w2 at hS hW hB hHeld ⊢
            refine pure_ (i := 0) (N := some 103) (v := ?_) (a' := ?_) #[true, false, false, false, false, false, false, false, false, false] rfl rfl (by kernel_rfl) (fun _ _ _ h => h) (Or.inl ⟨by rfl, ?_⟩) ?_ ?_
            rotate_left
            · intro w'; go_simp; with_reducible rfl
            rotate_left
            · simp only [Act.put, List.setIfInBounds_toArray, List.set_cons_zero, List.set_cons_succ, i64_w, i32_w]; rfl
            refine one_ (i := 1) (N := some 104) #[true, true, false, false, false, false, false, false, false, false] rfl rfl (by kernel_rfl) (by decide) (fun K hK => ?_)
            refine goes_ Tryd.func11 (by kernel_rfl) rfl #[.pointer (some ⟨g, 0, none⟩)] (by rfl) rfl rfl (by first | (go_simp; done) | (go_simp; rfl)) ?_
            refine (wundo hS.out hok0.out).mono ?_
            rw [hun.out]
            rintro e w3 ⟨rfl, hS3, hk3, hb3⟩
            refine ⟨_, rfl, ?_⟩
            have hW3 := hW.out.beside hk3
            have hB3 := hB.out.trans hb3
            obtain ⟨own4, ho4⟩ : ∃ o, nextOwn own3 w2 w3 = o := ⟨_, rfl⟩
            rw [ho4] at hS3 hW3
            clear ho4 hk3 hb3 hS hW hB
            refine hK.out _ _ (hW3.y.bx) (fun hHeld => ?_)
            clear hK K
            refine norm_ (a' := ?_) ?_ ?_
            rotate_left
            · show Act.put _ (some 104) _ = _
              simp only [Act.put, List.setIfInBounds_toArray, List.set_cons_zero, List.set_cons_succ, i64_w, i32_w]; rfl
            refine pure_ (i := 2) (N := some 105) (v := ?_) (a' := ?_) #[true, true, true, false, false, false, false, false, false, false] rfl rfl (by kernel_rfl) (fun _ _ _ h => h) (Or.inl ⟨by rfl, ?_⟩) ?_ ?_
            rotate_left
            · intro w'; go_simp; with_reducible rfl
            rotate_left
            · simp only [Act.put, List.setIfInBounds_toArray, List.set_cons_zero, List.set_cons_succ, i64_w, i32_w]; rfl
            refine pure_ (i := 3) (N := some 106) (v := ?_) (a' := ?_) #[true, true, true, true, false, false, false, false, false, false] rfl rfl (by kernel_rfl) (fun _ _ _ h => h) (Or.inl ⟨by rfl, ?_⟩) ?_ ?_
            rotate_left
            · intro w'; go_simp; with_reducible rfl
            rotate_left
            · simp only [Act.put, List.setIfInBounds_toArray, List.set_cons_zero, List.set_cons_succ, i64_w, i32_w]; rfl
            refine pure_ (i := 4) (N := some 107) (v := ?_) (a' := ?_) #[true, true, true, true, true, false, false, false, false, false] rfl rfl (by kernel_rfl) (fun _ _ _ h => h) (Or.inl ⟨by rfl, ?_⟩) ?_ ?_
            rotate_left
            · intro w'; go_simp; with_reducible rfl
            rotate_left
            · simp only [Act.put, List.setIfInBounds_toArray, List.set_cons_zero, List.set_cons_succ, i64_w, i32_w]; rfl
            refine take_ (i := 6) (N := some 109) (v := ?_) (a' := ?_) #[true, true, true, true, true, false, true, false, false, false] rfl rfl (by kernel_rfl) (fun _ _ _ h => h) (Or.inl ⟨by rfl, ?_⟩) hHeld ?_ ?_
            rotate_left
            · rintro w' s0_; have q0 := cells4 s0_; clear s0_; go_simp; with_reducible rfl
            rotate_left
            · simp only [Act.put, List.setIfInBounds_toArray, List.set_cons_zero, List.set_cons_succ, i64_w, i32_w]; rfl
            refine one_ (i := 5) (N := some 108) #[true, true, true, true, true, true, true, false, false, false] rfl rfl (by kernel_rfl) (by decide) (fun K hK => ?_)
            refine goes_ Tryd.func6 (by kernel_rfl) rfl #[.pointer (some ⟨g, 0, none⟩)] (by rfl) rfl rfl (by first | (go_simp; done) | (go_simp; rfl)) ?_
            refine (wsheet hS3 hok0.out).mono ?_
            rw [htop.out]
            rintro e w5 ⟨u4, u5, rfl, h0, h1, hb, hS5⟩
            refine ⟨_, rfl, ?_⟩
            obtain ⟨D4, k4, rfl⟩ := Kd.R_slice h0
            obtain ⟨D5, k5, rfl⟩ := Kd.R_slice h1
            replace hW3 := hW3.below hb
            have hB5 := hB3.trans (hb.mono hB3.size)
            clear hb hS3 hB3
            refine hK.out _ _ (hW3.y.bx) (fun hHeld => ?_)
            clear hK K
            refine norm_ (a' := ?_) ?_ ?_
            rotate_left
            · show Act.put _ (some 108) _ = _
              simp only [Act.put, List.setIfInBounds_toArray, List.set_cons_zero, List.set_cons_succ, i64_w, i32_w]; rfl
            refine one_ (i := 7) (N := some 110) #[true, true, true, true, true, true, true, true, false, false] rfl rfl (by kernel_rfl) (by decide) (fun K hK => ?_)
            refine goes_ Tryd.func8 (by kernel_rfl) rfl #[.agg #[.slice D4 s0.1.length k4, .slice D5 s0.2.1.length k5, .int .i64 s0.2.2.1, .bool s0.2.2.2], .agg #[.slice D2 s0.1.length k2, .slice D3 s0.2.1.length k3, .int .i64 s0.2.2.1, .bool s0.2.2.2]] (by rfl) rfl rfl (by first | (go_simp; done) | (go_simp; rfl)) ?_
            refine (rebusref23_Same.calls hxs.out.l hxs.out.m (shtR_of h0 h1) (shtR_of hW3.y.r7 hW3.y.r8)).mono ?_
            rintro e w6 ⟨rfl, hb⟩
            refine ⟨_, rfl, ?_⟩
            have hS6 := Lib.hid (hS5.below hb)
            replace hW3 := hW3.below hb
            have hW6 := Lib.hid hW3
            have hB6 := Lib.hid (hB5.trans (hb.mono hB5.size))
            clear hb h0 h1 hS5 hB5
            refine hK.out _ _ (hW3.y.bx) (fun hHeld => ?_)
            clear hK K
            refine norm_ (a' := ?_) ?_ ?_
            rotate_left
            · show Act.put _ (some 110) _ = _
              simp only [Act.put, List.setIfInBounds_toArray, List.set_cons_zero, List.set_cons_succ, i64_w, i32_w]; rfl
            clear hW3
            refine pure_ (i := 8) (N := some 111) (v := ?_) (a' := ?_) #[true, true, true, true, true, true, true, true, true, false] rfl rfl (by kernel_rfl) (fun _ _ _ h => h) (Or.inl ⟨by rfl, ?_⟩) ?_ ?_
            rotate_left
            · intro w'; go_simp; with_reducible rfl
            rotate_left
            · simp only [Act.put, List.setIfInBounds_toArray, List.set_cons_zero, List.set_cons_succ, i64_w, i32_w]; rfl
            refine pure_ (i := 9) (N := some 112) (v := ?_) (a' := ?_) #[true, true, true, true, true, true, true, true, true, true] rfl rfl (by kernel_rfl) (fun _ _ _ h => h) (Or.inl ⟨by rfl, ?_⟩) ?_ ?_
            rotate_left
            · intro w'; go_simp; with_reducible rfl
            rotate_left
            · simp only [Act.put, List.setIfInBounds_toArray, List.set_cons_zero, List.set_cons_succ, i64_w, i32_w]; rfl
            refine done_ (by kernel_rfl) ?_
            go_wp2
            clear hok0 hun htop hxs
            go_loopw [115] (fun v115 wr => ∃ (k : Nat) (q : Int) (own : Nat → Prop), v115 = .int .i64 q ∧ Hid (q = (k : Int) ∧ k ≤ log.length) ∧ Hid (SesT own wr w1.heap.size g P (stU sh log k)) ∧ Hid (SideW own wr w1.heap.size (.slice AL log.length cL) (sh.take log.length) (.slice Dl log.length kl) log b11 b13 sl s0 D0 k0 D1 k1 D2 k2 D3 k3) ∧ Hid (Below w1.heap.size w1 wr)) (fun v115 _ => log.length - (intOf v115).toNat)
            case atStart => exact ⟨0, 0, own4, rfl, Lib.hid ⟨rfl, Nat.zero_le _⟩, hS6, hW6, hB6⟩
            case round =>
              clear hS6 hW6 hB6
              obtain ⟨k, q3, own5, rfl, hq3, hS, hW, hB⟩ := hrel
              have hTB := Lib.hid (fun w' (h : Below w1.heap.size wr w') => tabs_below hT (below_then hB1.out hm1.out (hB.out.trans h)))
              have hok1 := Lib.hid (st_ok hzP.out hrun.out.1 hnl.out hrun.out.2.2.1 hrun.out.2.2.2.2 k)
              by_cases hk : k < log.length
              · have hkt : q3 < (log.length : Int) := by have := hq3.out; omega
                have hq4 : q3 < 100 := by have := hnl.out; omega
                have hq5 : 0 ≤ q3 := by have := hq3.out; omega
                have hre := Lib.hid (redo_st hrun.out.1 hk)
                replace hk := Lib.hid hk
                go_wp2_with (first
                  | (go_at_call 13; go_must (refine (wredo hTB.out hS.out hok1.out).mono ?_; rw [hre.out]; rintro e w3 ⟨rfl, hS3, hk3, hb3⟩; have hW3 := Lib.hid (hW.out.beside hk3); replace hS3 := Lib.hid hS3; have hB3 := Lib.hid (hB.out.trans hb3); clear hk3 hb3)))
                refine ⟨⟨k + 1, q3 + 1, _, rfl, Lib.hid ⟨by have := hq3.out; omega, hk.out⟩, hS3, hW3, hB3⟩, ?_⟩
                simp only [intOf]; have := hq3.out; have := hk.out; omega
              · have hkt : ¬ q3 < (log.length : Int) := by have := hq3.out; omega
                obtain rfl : k = log.length := by have := hq3.out; omega
                have hre := Lib.hid (redo_n (P := P) (sh := sh) (log := log))
                have htop := Lib.hid ((top_st hrun.out.1 (Nat.le_refl _)).trans (show shN sh log.length = sl by rw [← hsl.out, topOf_eq (by have := hrun.out.1.n; omega), hrun.out.1.n, Nat.add_sub_cancel]))
                have hlg := Lib.hid (show (stU sh log log.length).log = log from List.take_length)
                have hxs := Lib.hid (show ShtS sl by rw [← hsl.out]; exact (ses_ok hzP.out hrun.out.1 hnl.out hrun.out.2.2.1).top)
                go_wp2
                refine start_ (n := 16) (S := fun w' => w'.heap[b11]? = some (.cells #[.slice D0 sl.1.length k0, .slice D1 sl.2.1.length k1, .int .i64 sl.2.2.1, .bool sl.2.2.2] 38 (0, 0))) (ds := []) #[false, false, false, false, false, false, false, false, false, false, false, false, false, false, false, false] (by kernel_rfl) rfl rfl (blk_drew hW.out.x.bx) (fun hHeld => ?_)
                replace hS := Lib.hid (hS.out.below (below_drew (Below.refl _ _)))
                replace hW := Lib.hid (hW.out.below (below_drew (Below.refl _ _)))
                replace hTB := Lib.hid (fun w' (h : Below w1.heap.size wr.drew w') => hTB.out w' ((below_drew (Below.refl _ _)).trans h))
                replace hB := Lib.hid (below_drew hB.out)
                generalize wr.drew = w2 at hS hW hB hTB hHeld ⊢
                refine pure_ (i := 0) (N := some 121) (v := ?_) (a' := ?_) #[true, false, false, false, false, false, false, false, false, false, false, false, false, false, false, false] rfl rfl (by kernel_rfl) (fun _ _ _ h => h) (Or.inl ⟨by rfl, ?_⟩) ?_ ?_
                rotate_left
                · intro w'; go_simp; with_reducible rfl
                rotate_left
                · simp only [Act.put, List.setIfInBounds_toArray, List.set_cons_zero, List.set_cons_succ, i64_w, i32_w]; rfl
                refine one_ (i := 1) (N := some 122) #[true, true, false, false, false, false, false, false, false, false, false, false, false, false, false, false] rfl rfl (by kernel_rfl) (by decide) (fun K hK => ?_)
                refine goes_ Tryd.func13 (by kernel_rfl) rfl #[.pointer (some ⟨g, 0, none⟩)] (by rfl) rfl rfl (by first | (go_simp; done) | (go_simp; rfl)) ?_
                refine (wredo hTB.out hS.out hok1.out).mono ?_
                rw [hre.out]
                rintro e w3 ⟨rfl, hS3, hk3, hb3⟩
                refine ⟨_, rfl, ?_⟩
                have hW3 := hW.out.beside hk3
                have hB3 := hB.out.trans hb3
                obtain ⟨own6, ho6⟩ : ∃ o, nextOwn own5 w2 w3 = o := ⟨_, rfl⟩
                rw [ho6] at hS3 hW3
                clear ho6 hk3 hb3 hS hW hB hTB
                refine hK.out _ _ (hW3.x.bx) (fun hHeld => ?_)
                clear hK K
                refine norm_ (a' := ?_) ?_ ?_
                rotate_left
                · show Act.put _ (some 122) _ = _
                  simp only [Act.put, List.setIfInBounds_toArray, List.set_cons_zero, List.set_cons_succ, i64_w, i32_w]; rfl
                refine pure_ (i := 2) (N := some 123) (v := ?_) (a' := ?_) #[true, true, true, false, false, false, false, false, false, false, false, false, false, false, false, false] rfl rfl (by kernel_rfl) (fun _ _ _ h => h) (Or.inl ⟨by rfl, ?_⟩) ?_ ?_
                rotate_left
                · intro w'; go_simp; with_reducible rfl
                rotate_left
                · simp only [Act.put, List.setIfInBounds_toArray, List.set_cons_zero, List.set_cons_succ, i64_w, i32_w]; rfl
                refine pure_ (i := 3) (N := some 124) (v := ?_) (a' := ?_) #[true, true, true, true, false, false, false, false, false, false, false, false, false, false, false, false] rfl rfl (by kernel_rfl) (fun _ _ _ h => h) (Or.inl ⟨by rfl, ?_⟩) ?_ ?_
                rotate_left
                · intro w'; go_simp; with_reducible rfl
                rotate_left
                · simp only [Act.put, List.setIfInBounds_toArray, List.set_cons_zero, List.set_cons_succ, i64_w, i32_w]; rfl
                refine pure_ (i := 4) (N := some 125) (v := ?_) (a' := ?_) #[true, true, true, true, true, false, false, false, false, false, false, false, false, false, false, false] rfl rfl (by kernel_rfl) (fun _ _ _ h => h) (Or.inl ⟨by rfl, ?_⟩) ?_ ?_
                rotate_left
                · intro w'; go_simp; with_reducible rfl
                rotate_left
                · simp only [Act.put, List.setIfInBounds_toArray, List.set_cons_zero, List.set_cons_succ, i64_w, i32_w]; rfl
                refine take_ (i := 6) (N := some 127) (v := ?_) (a' := ?_) #[true, true, true, true, true, false, true, false, false, false, false, false, false, false, false, false] rfl rfl (by kernel_rfl) (fun _ _ _ h => h) (Or.inl ⟨by rfl, ?_⟩) hHeld ?_ ?_
                rotate_left
                · rintro w' s0_; have q0 := cells4 s0_; clear s0_; go_simp; with_reducible rfl
                rotate_left
                · simp only [Act.put, List.setIfInBounds_toArray, List.set_cons_zero, List.set_cons_succ, i64_w, i32_w]; rfl
                refine one_ (i := 5) (N := some 126) #[true, true, true, true, true, true, true, false, false, false, false, false, false, false, false, false] rfl rfl (by kernel_rfl) (by decide) (fun K hK => ?_)
                refine goes_ Tryd.func6 (by kernel_rfl) rfl #[.pointer (some ⟨g, 0, none⟩)] (by rfl) rfl rfl (by first | (go_simp; done) | (go_simp; rfl)) ?_
                refine (wsheet hS3 hok1.out).mono ?_
                rw [htop.out]
                rintro e w5 ⟨u4, u5, rfl, h0, h1, hb, hS5⟩
                refine ⟨_, rfl, ?_⟩
                obtain ⟨D4, k4, rfl⟩ := Kd.R_slice h0
                obtain ⟨D5, k5, rfl⟩ := Kd.R_slice h1
                replace hW3 := hW3.below hb
                have hB5 := hB3.trans (hb.mono hB3.size)
                clear hb hS3 hB3
                refine hK.out _ _ (hW3.x.bx) (fun hHeld => ?_)
                clear hK K
                refine norm_ (a' := ?_) ?_ ?_
                rotate_left
                · show Act.put _ (some 126) _ = _
                  simp only [Act.put, List.setIfInBounds_toArray, List.set_cons_zero, List.set_cons_succ, i64_w, i32_w]; rfl
                refine one_ (i := 7) (N := some 128) #[true, true, true, true, true, true, true, true, false, false, false, false, false, false, false, false] rfl rfl (by kernel_rfl) (by decide) (fun K hK => ?_)
                refine goes_ Tryd.func8 (by kernel_rfl) rfl #[.agg #[.slice D4 sl.1.length k4, .slice D5 sl.2.1.length k5, .int .i64 sl.2.2.1, .bool sl.2.2.2], .agg #[.slice D0 sl.1.length k0, .slice D1 sl.2.1.length k1, .int .i64 sl.2.2.1, .bool sl.2.2.2]] (by rfl) rfl rfl (by first | (go_simp; done) | (go_simp; rfl)) ?_
                refine (rebusref23_Same.calls hxs.out.l hxs.out.m (shtR_of h0 h1) (shtR_of hW3.x.r7 hW3.x.r8)).mono ?_
                rintro e w6 ⟨rfl, hb⟩
                refine ⟨_, rfl, ?_⟩
                have hS6 := hS5.below hb
                replace hW3 := hW3.below hb
                have hB6 := hB5.trans (hb.mono hB5.size)
                clear hb h0 h1 hS5 hB5
                refine hK.out _ _ (hW3.x.bx) (fun hHeld => ?_)
                clear hK K
                refine norm_ (a' := ?_) ?_ ?_
                rotate_left
                · show Act.put _ (some 128) _ = _
                  simp only [Act.put, List.setIfInBounds_toArray, List.set_cons_zero, List.set_cons_succ, i64_w, i32_w]; rfl
                refine pure_ (i := 8) (N := some 129) (v := ?_) (a' := ?_) #[true, true, true, true, true, true, true, true, true, false, false, false, false, false, false, false] rfl rfl (by kernel_rfl) (fun _ _ _ h => h) (Or.inl ⟨by rfl, ?_⟩) ?_ ?_
                rotate_left
                · intro w'; go_simp; with_reducible rfl
                rotate_left
                · simp only [Act.put, List.setIfInBounds_toArray, List.set_cons_zero, List.set_cons_succ, i64_w, i32_w]; rfl
                refine pure_ (i := 9) (N := some 130) (v := ?_) (a' := ?_) #[true, true, true, true, true, true, true, true, true, true, false, false, false, false, false, false] rfl rfl (by kernel_rfl) (fun _ _ _ h => h) (Or.inl ⟨by rfl, ?_⟩) ?_ ?_
                rotate_left
                · intro w'; go_simp; with_reducible rfl
                rotate_left
                · simp only [Act.put, List.setIfInBounds_toArray, List.set_cons_zero, List.set_cons_succ, i64_w, i32_w]; rfl
                refine pure_ (i := 10) (N := some 131) (v := ?_) (a' := ?_) #[true, true, true, true, true, true, true, true, true, true, true, false, false, false, false, false] rfl rfl (by kernel_rfl) (fun _ _ _ h => h) (Or.inl ⟨by rfl, ?_⟩) ?_ ?_
                rotate_left
                · intro w'; go_simp; with_reducible rfl
                rotate_left
                · simp only [Act.put, List.setIfInBounds_toArray, List.set_cons_zero, List.set_cons_succ, i64_w, i32_w]; rfl
                refine pure_ (i := 12) (N := some 133) (v := ?_) (a' := ?_) #[true, true, true, true, true, true, true, true, true, true, true, false, true, false, false, false] rfl rfl (by kernel_rfl) (fun _ _ _ h => h) (Or.inl ⟨by rfl, ?_⟩) ?_ ?_
                rotate_left
                · intro w'; go_simp; with_reducible rfl
                rotate_left
                · simp only [Act.put, List.setIfInBounds_toArray, List.set_cons_zero, List.set_cons_succ, i64_w, i32_w]; rfl
                refine one_ (i := 11) (N := some 132) #[true, true, true, true, true, true, true, true, true, true, true, true, true, false, false, false] rfl rfl (by kernel_rfl) (by decide) (fun K hK => ?_)
                refine goes_ Tryd.func9 (by kernel_rfl) rfl #[.pointer (some ⟨g, 0, none⟩)] (by rfl) rfl rfl (by first | (go_simp; done) | (go_simp; rfl)) ?_
                refine (wlog hS6 hok1.out).mono ?_
                rw [hlg.out]
                rintro e w7 ⟨ul, rfl, hl, hb, _⟩
                refine ⟨_, rfl, ?_⟩
                obtain ⟨D6, k6, rfl⟩ := Kd.R_slice hl
                replace hW3 := hW3.below hb
                have hB7 := hB6.trans (hb.mono hB6.size)
                clear hb hS6 hB6
                refine hK.out _ _ (hW3.x.bx) (fun hHeld => ?_)
                clear hK K
                refine norm_ (a' := ?_) ?_ ?_
                rotate_left
                · show Act.put _ (some 132) _ = _
                  simp only [Act.put, List.setIfInBounds_toArray, List.set_cons_zero, List.set_cons_succ, i64_w, i32_w]; rfl
                refine one_ (i := 13) (N := some 134) #[true, true, true, true, true, true, true, true, true, true, true, true, true, true, false, false] rfl rfl (by kernel_rfl) (by decide) (fun K hK => ?_)
                refine goes_ Tryd.func14 (by kernel_rfl) rfl #[.slice D6 log.length k6, .slice Dl log.length kl] (by rfl) rfl rfl (by first | (go_simp; done) | (go_simp; rfl)) ?_
                have g1 := Kd.R_reads' hl
                have g2 := Kd.R_reads' hW3.g
                refine (same24_calls (by have := hnl.out; omega) g1.2.2 g1.2.1 g2.2.2 g2.2.1).mono ?_
                rintro e w8 ⟨rfl, hb⟩
                refine ⟨_, rfl, ?_⟩
                replace hW3 := hW3.below hb
                have hB8 := Lib.hid (hB7.trans (hb.mono hB7.size))
                clear hb hl hB7 g1 g2
                refine hK.out _ _ (hW3.x.bx) (fun hHeld => ?_)
                clear hK K
                refine norm_ (a' := ?_) ?_ ?_
                rotate_left
                · show Act.put _ (some 134) _ = _
                  simp only [Act.put, List.setIfInBounds_toArray, List.set_cons_zero, List.set_cons_succ, i64_w, i32_w]; rfl
                clear hW3
                refine pure_ (i := 14) (N := some 135) (v := ?_) (a' := ?_) #[true, true, true, true, true, true, true, true, true, true, true, true, true, true, true, false] rfl rfl (by kernel_rfl) (fun _ _ _ h => h) (Or.inl ⟨by rfl, ?_⟩) ?_ ?_
                rotate_left
                · intro w'; go_simp; with_reducible rfl
                rotate_left
                · simp only [Act.put, List.setIfInBounds_toArray, List.set_cons_zero, List.set_cons_succ, i64_w, i32_w]; rfl
                refine pure_ (i := 15) (N := some 4) (v := ?_) (a' := ?_) #[true, true, true, true, true, true, true, true, true, true, true, true, true, true, true, true] rfl rfl (by kernel_rfl) (fun _ _ _ h => h) (Or.inl ⟨by rfl, ?_⟩) ?_ ?_
                rotate_left
                · intro w'; go_simp; with_reducible rfl
                rotate_left
                · simp only [Act.put, List.setIfInBounds_toArray, List.set_cons_zero, List.set_cons_succ, i64_w, i32_w]; rfl
                refine done_ (by kernel_rfl) ?_
                go_wp2
                go_ret
                exact ⟨rfl, below_then hB1.out hm1.out hB8.out⟩)
end Go.Proofs.YtplhkfppjemjmaaDoor.Q
