/- PART 19 OF A PROOF: Lean functions, and that the program computes them; written by hand and by a program. Not trusted: Lean checks it. -/
import Derived.Test.YtiipailmldbpbaaDoorAd3
import Derived.Test.YtiipailmldbpbaaDoorAd13
set_option linter.unusedVariables false
set_option linter.unusedSimpArgs false
section
namespace Go.Proofs.YtiipailmldbpbaaDoor.Q
open Go.RowKit Go.Proofs.YtiipailmldbpbaaDoorW.PrintWords Go.Proofs.YtiipailmldbpbaaDoorW.PrintLast Go.Proofs.YtiipailmldbpbaaDoorW.PrintMore
set_option linter.unusedVariables false
set_option linter.unusedSimpArgs false
open Go.Proofs.YtiipailmldbpbaaDoorS
def slacks (cells sc : List ByteArray) : Nat → Nat → Bool
  | 0, _ => false
  | d + 1, i => (!(rdOf ByteArray.empty cells (i : Int)).toList.isEmpty && !decide ((rdOf ByteArray.empty sc (i : Int)).toList = (rdOf ByteArray.empty cells (i : Int)).toList)) || slacks cells sc d (i + 1)
def sdone (title : ByteArray) (H W : Int) (bl ri be : List Bool) (cells clues sc : List ByteArray) (ss : List Bool) (at_ : Int) : Bool := decide (scheck title H W bl ri be cells clues sc ss at_ = 0) && !slacks cells sc cells.length 0
def wrongs (cells sc : List ByteArray) : Nat → Nat → List Int
  | 0, _ => []
  | d + 1, i => if (rdOf ByteArray.empty sc (i : Int)).toList = [] then wrongs cells sc d (i + 1) else if (rdOf ByteArray.empty cells (i : Int)).toList = [] then wrongs cells sc d (i + 1) else if (rdOf ByteArray.empty sc (i : Int)).toList = (rdOf ByteArray.empty cells (i : Int)).toList then wrongs cells sc d (i + 1) else (i : Int) :: wrongs cells sc d (i + 1)
def swrong (title : ByteArray) (H W : Int) (bl ri be : List Bool) (cells clues sc : List ByteArray) (ss : List Bool) (at_ : Int) : List Int × Int :=
  if scheck title H W bl ri be cells clues sc ss at_ = 0 then (wrongs cells sc sc.length 0, 0) else ([], scheck title H W bl ri be cells clues sc ss at_)
theorem slacks_step {cells sc : List ByteArray} {n i : Nat} (hi : i < n) : slacks cells sc (n - i) i = ((!(rdOf ByteArray.empty cells (i : Int)).toList.isEmpty && !decide ((rdOf ByteArray.empty sc (i : Int)).toList = (rdOf ByteArray.empty cells (i : Int)).toList)) || slacks cells sc (n - (i + 1)) (i + 1)) := by
  obtain ⟨d, hd⟩ : ∃ d, n - i = d + 1 := ⟨n - i - 1, by omega⟩
  rw [hd, show n - (i + 1) = d by omega]
  rfl
theorem wrongs_step {cells sc : List ByteArray} {n i : Nat} (hi : i < n) : wrongs cells sc (n - i) i = if (rdOf ByteArray.empty sc (i : Int)).toList = [] then wrongs cells sc (n - (i + 1)) (i + 1) else if (rdOf ByteArray.empty cells (i : Int)).toList = [] then wrongs cells sc (n - (i + 1)) (i + 1) else if (rdOf ByteArray.empty sc (i : Int)).toList = (rdOf ByteArray.empty cells (i : Int)).toList then wrongs cells sc (n - (i + 1)) (i + 1) else (i : Int) :: wrongs cells sc (n - (i + 1)) (i + 1) := by
  obtain ⟨d, hd⟩ : ∃ d, n - i = d + 1 := ⟨n - i - 1, by omega⟩
  rw [hd, show n - (i + 1) = d by omega]
  rfl
theorem firstOpen_step {bl : List Bool} {n i : Nat} (hi : i < n) : firstOpen bl (n - i) i = if rdOf false bl (i : Int) then firstOpen bl (n - (i + 1)) (i + 1) else (i : Int) := by
  obtain ⟨d, hd⟩ : ∃ d, n - i = d + 1 := ⟨n - i - 1, by omega⟩
  rw [hd, show n - (i + 1) = d by omega]
  rfl
theorem firstOpen_lt (bl : List Bool) : ∀ d i, firstOpen bl d i < (i + d : Nat) ∧ -1 ≤ firstOpen bl d i
  | 0, i => ⟨by simp only [firstOpen]; omega, by simp [firstOpen]⟩
  | d + 1, i => by
    have := firstOpen_lt bl d (i + 1)
    simp only [firstOpen]
    split
    · omega
    · omega
set_option maxHeartbeats 8000000 in
set_option maxRecDepth 1000000 in
theorem index_calls {A : Option Addr} {c : Nat} {bl : List Bool} {w : World} (hl : bl.length ≤ 1048576) (h : Kd.C Kd.bool w A bl.length bl) :
    Calls Tryd.prog 21 #[.slice A bl.length c, .bool false] w fun e w' => e = .returned (.int .i64 (firstOpen bl bl.length 0)) ∧ Below w.heap.size w w' := by
  obtain ⟨V, hV⟩ : ∃ V, firstOpen bl bl.length 0 = V := ⟨_, rfl⟩
  rw [hV]
  go_enter Tryd.func21, Tryd.ntmps21
  go_wp2
  go_loopw [8] (fun v8 wr => ∃ (i : Nat) (q : Int), v8 = .int .i64 q ∧ Hid (q = i ∧ i ≤ bl.length) ∧ Hid (V = firstOpen bl (bl.length - i) i) ∧ Hid (Below w.heap.size w wr)) (fun v8 _ => bl.length - (intOf v8).toNat)
  case atStart => exact ⟨0, 0, rfl, Lib.hid ⟨rfl, Nat.zero_le _⟩, Lib.hid hV.symm, Lib.hid (Below.refl _ _)⟩
  case round =>
    clear hV
    obtain ⟨i, q, rfl, hq, hrb, hB⟩ := hrel
    by_cases hlt : i < bl.length
    · have hq0 : 0 ≤ q := by have := hq.out; omega
      have hq1 : q < (bl.length : Int) := by have := hq.out; omega
      have hq3 : q < 1048576 := by omega
      obtain ⟨ad, eA, zx⟩ := Kd.at_bool (Kd.C_below h hB.out) q hq0 hq1
      cases eA
      have hst := firstOpen_step (bl := bl) hlt
      rw [← hq.out.1] at hst
      obtain ⟨xa, hxa⟩ : ∃ x, rdOf false bl q = x := ⟨_, rfl⟩
      rw [hxa] at hst zx
      clear hxa
      cases xa with
      | true =>
        have hE : V = firstOpen bl (bl.length - (i + 1)) (i + 1) := by rw [hrb.out, hst]; rfl
        replace hE := Lib.hid hE
        replace hlt := Lib.hid hlt
        clear hst hrb
        go_wp2
        refine ⟨⟨i + 1, q + 1, rfl, Lib.hid ⟨by have := hq.out; omega, hlt.out⟩, hE, hB⟩, ?_⟩
        simp only [intOf]; have := hq.out; have := hlt.out; omega
      | false =>
        have hE : V = q := by rw [hrb.out, hst]; rfl
        replace hE := Lib.hid hE
        clear hst hrb
        go_wp2
        go_ret
        exact ⟨by rw [hE.out]; rfl, hB.out⟩
    · have hge : ¬ q < (bl.length : Int) := by have := hq.out; omega
      have hE : V = -1 := by rw [hrb.out, show bl.length - i = 0 by have := hq.out; omega]; rfl
      replace hE := Lib.hid hE
      clear hrb
      go_wp2
      go_ret
      exact ⟨by rw [hE.out]; rfl, hB.out⟩
set_option maxHeartbeats 8000000 in
set_option maxRecDepth 1000000 in
theorem start_calls {title : ByteArray} {H W : Int} {A2 : Option Addr} {c2 : Nat} {bl : List Bool} {A3 : Option Addr} {c3 : Nat} {ri : List Bool} {A4 : Option Addr} {c4 : Nat} {be : List Bool} {A5 : Option Addr} {c5 : Nat} {cells : List ByteArray} {A6 : Option Addr} {c6 : Nat} {clues : List ByteArray} {w : World} (hT : Tabs w) (hP : PuzR A2 c2 bl A3 c3 ri A4 c4 be A5 c5 cells A6 c6 clues w) (hz : PuzS title cells clues) :
    Calls Tryd.prog 8 #[.agg #[.string title, .int .i64 H, .int .i64 W, .slice A2 bl.length c2, .slice A3 ri.length c3, .slice A4 be.length c4, .slice A5 cells.length c5, .slice A6 clues.length c6]] w (DoPost w (sstart title H W bl ri be cells clues)) := by
  have hx := box2 w (.cells #[.string title, .int .i64 H, .int .i64 W, .slice A2 bl.length c2, .slice A3 ri.length c3, .slice A4 be.length c4, .slice A5 cells.length c5, .slice A6 clues.length c6] 27) (.cells #[.slice none 0 0, .slice none 0 0, .int .i64 0, .bool false] 30)
  replace hx := Lib.hid hx
  have hu27 := Tryd.underlying27
  have hu24 := Tryd.underlying24
  have hu30 := Tryd.underlying30
  have hck := page_Check_eq title H W bl ri be cells clues hz.t hz.s hz.c hz.l hz.m _ (Nat.le_refl _)
  by_cases hp : pcheck title H W bl ri be cells clues = 0
  · have tp : ((0 : Int) != 0) = false := rfl
    rw [hp] at hck
    have hbl : cells.length = bl.length := (pcheck_ok hp).2.1
    obtain ⟨V, hV⟩ : ∃ V, sstart title H W bl ri be cells clues = V := ⟨_, rfl⟩
    have hv : V = if firstOpen bl bl.length 0 < 0 then ([], [], 0, false, 230) else (List.replicate cells.length ⟨#[]⟩, List.replicate cells.length false, firstOpen bl bl.length 0, false, 0) := by rw [← hV]; unfold sstart; rw [if_pos hp]
    rw [hV]
    obtain ⟨l3, hl3⟩ : ∃ l : List ByteArray, l = List.replicate cells.length ⟨#[]⟩ := ⟨_, rfl⟩
    obtain ⟨l7, hl7⟩ : ∃ l : List Bool, l = List.replicate cells.length false := ⟨_, rfl⟩
    rw [← hl3, ← hl7] at hv
    have hfl := firstOpen_lt bl bl.length 0
    obtain ⟨q, hf⟩ : ∃ q, firstOpen bl bl.length 0 = q := ⟨_, rfl⟩
    rw [hf] at hv hfl
    clear hV hp
    replace hf := Lib.hid hf
    replace hck := Lib.hid hck
    replace hl3 := Lib.hid hl3
    replace hl7 := Lib.hid hl7
    by_cases hq : q < 0
    · have tq : decide (q < 0) = true := decide_eq_true hq
      have hE : V = ([], [], 0, false, 230) := by rw [hv, if_pos hq]
      clear hv hq hfl
      replace hE := Lib.hid hE
      replace hbl := Lib.hid hbl
      go_enter Tryd.func8, Tryd.ntmps8
      go_wp2_with (first
        | (go_at_call 20; go_must (have hPx := hP.below hx.out.2.2; refine (page_Check.calls _ title H W _ c2 bl _ c3 ri _ c4 be _ c5 cells _ c6 clues _ _ hPx.r2 hPx.k2 hPx.r3 hPx.k3 hPx.r4 hPx.k4 hPx.r5 hPx.k5 hPx.r6 hPx.k6 (tabs_below hT hx.out.2.2) hck.out).mono ?_; rintro e w3 ⟨rfl, hb3⟩; have hB3 := Lib.hid (below_step hx.out.2.2 hb3); have bP := Lib.hid (blk_below hx.out.1 hb3); have bT := Lib.hid (blk_below hx.out.2.1 hb3); have p3 := cells8 bP.out; have t3 := cells4 bT.out; have f3 := frozen4 bT.out; have y3 := blk_lt bT.out; clear hb3 hPx))
        | (go_at_call 21; go_must (refine (index_calls (by have := hbl.out; have := hz.l; omega) (hP.below hB3.out).r2).mono ?_; rintro e wr ⟨rfl, hb4⟩; rw [hf.out]; have hB := Lib.hid (below_step hB3.out hb4); have bP := Lib.hid (blk_below bP.out hb4); have bT := Lib.hid (blk_below bT.out hb4); have p4 := cells8 bP.out; have t4 := cells4 bT.out; have f4 := frozen4 bT.out; have y4 := blk_lt bT.out; clear hb4 p3 t3 f3 y3))
        | ((with_reducible refine gate_store (t := 30) (p := 2) (v := .tmp 18) rfl ?_); go_must (refine store_event (w1 := put4 wr (w.heap.size + 1) (.slice none 0 0) (.slice none 0 0) (.int .i64 0) (.bool false)) (by rfl) (by rfl) (by rfl) ?hr ?_; (case hr => first | (go_simp; done) | (go_simp; rfl)); intro w5 hw5; have Fw5 := put4_facts bT.out (.slice none 0 0) (.slice none 0 0) (.int .i64 0) (.bool false); rw [← hw5] at Fw5; have hB5 := Lib.hid (Fw5.2.2 _ _ hB.out (by omega)); have bT5 := Lib.hid Fw5.1; clear hw5 Fw5)))
      refine bodyPost_ret (results_ct rfl _ _ (w.heap.size + 1) 30 #[.slice none 0 0, .slice none 0 0, .int .i64 0, .bool false] (0, 0) _ rfl bT5.out Tryd.underlying30 rfl (by kernel_rfl)) rfl ?_
      rw [hE.out]
      exact ⟨_, _, rfl, Kd.R_nil _ _ _ _ _, Kd.R_nil _ _ _ _ _, hB5.out⟩
    · have tq : decide (q < 0) = false := decide_eq_false hq
      have hE : V = (l3, l7, q, false, 0) := by rw [hv, if_neg hq]
      clear hv
      replace hE := Lib.hid hE
      replace hbl := Lib.hid hbl
      go_enter Tryd.func8, Tryd.ntmps8
      go_wp2_with (first
        | (go_at_call 20; go_must (have hPx := hP.below hx.out.2.2; refine (page_Check.calls _ title H W _ c2 bl _ c3 ri _ c4 be _ c5 cells _ c6 clues _ _ hPx.r2 hPx.k2 hPx.r3 hPx.k3 hPx.r4 hPx.k4 hPx.r5 hPx.k5 hPx.r6 hPx.k6 (tabs_below hT hx.out.2.2) hck.out).mono ?_; rintro e w3 ⟨rfl, hb3⟩; have hB3 := Lib.hid (below_step hx.out.2.2 hb3); have bP := Lib.hid (blk_below hx.out.1 hb3); have bT := Lib.hid (blk_below hx.out.2.1 hb3); have p3 := cells8 bP.out; have t3 := cells4 bT.out; have f3 := frozen4 bT.out; have y3 := blk_lt bT.out; clear hb3 hPx))
        | (go_at_call 21; go_must (refine (index_calls (by have := hbl.out; have := hz.l; omega) (hP.below hB3.out).r2).mono ?_; rintro e wr ⟨rfl, hb4⟩; rw [hf.out]; have hB := Lib.hid (below_step hB3.out hb4); have bP := Lib.hid (blk_below bP.out hb4); have bT := Lib.hid (blk_below bT.out hb4); have p4 := cells8 bP.out; have t4 := cells4 bT.out; have f4 := frozen4 bT.out; have y4 := blk_lt bT.out; clear hb4 p3 t3 f3 y3)))
      refine start_ (n := 12) (S := fun w' => w'.cell? ⟨w.heap.size, 6, none⟩ = some (.slice A5 cells.length c5)) (ds := []) #[false, false, false, false, false, false, false, false, false, false, false, false] (by kernel_rfl) rfl rfl ((blk_cell (blk_drew bP.out) 6).trans rfl) (fun hHeld => ?_)
      refine pure_ (i := 0) (N := some 19) (v := ?_) (a' := ?_) #[true, false, false, false, false, false, false, false, false, false, false, false] rfl rfl (by kernel_rfl) (fun _ _ _ h => h) (Or.inl ⟨by rfl, ?_⟩) ?_ ?_
      rotate_left
      · intro w'; go_simp; with_reducible rfl
      rotate_left
      · simp only [Act.put, List.setIfInBounds_toArray, List.set_cons_zero, List.set_cons_succ, i64_w, i32_w]; rfl
      refine pure_ (i := 4) (N := some 23) (v := ?_) (a' := ?_) #[true, false, false, false, true, false, false, false, false, false, false, false] rfl rfl (by kernel_rfl) (fun _ _ _ h => h) (Or.inl ⟨by rfl, ?_⟩) ?_ ?_
      rotate_left
      · intro w'; go_simp; with_reducible rfl
      rotate_left
      · simp only [Act.put, List.setIfInBounds_toArray, List.set_cons_zero, List.set_cons_succ, i64_w, i32_w]; rfl
      refine pure_ (i := 8) (N := some 27) (v := ?_) (a' := ?_) #[true, false, false, false, true, false, false, false, true, false, false, false] rfl rfl (by kernel_rfl) (fun _ _ _ h => h) (Or.inl ⟨by rfl, ?_⟩) ?_ ?_
      rotate_left
      · intro w'; go_simp; with_reducible rfl
      rotate_left
      · simp only [Act.put, List.setIfInBounds_toArray, List.set_cons_zero, List.set_cons_succ, i64_w, i32_w]; rfl
      refine take_ (i := 1) (N := some 20) (v := ?_) (a' := ?_) #[true, true, false, false, true, false, false, false, true, false, false, false] rfl rfl (by kernel_rfl) (fun _ _ _ h => h) (Or.inl ⟨by rfl, ?_⟩) hHeld ?_ ?_
      rotate_left
      · intro w' s0; go_simp; with_reducible rfl
      rotate_left
      · simp only [Act.put, List.setIfInBounds_toArray, List.set_cons_zero, List.set_cons_succ, i64_w, i32_w]; rfl
      refine pure_ (i := 2) (N := some 21) (v := ?_) (a' := ?_) #[true, true, true, false, true, false, false, false, true, false, false, false] rfl rfl (by kernel_rfl) (fun _ _ _ h => h) (Or.inl ⟨by rfl, ?_⟩) ?_ ?_
      rotate_left
      · intro w'; go_simp; with_reducible rfl
      rotate_left
      · simp only [Act.put, List.setIfInBounds_toArray, List.set_cons_zero, List.set_cons_succ, i64_w, i32_w]; rfl
      refine take_ (i := 5) (N := some 24) (v := ?_) (a' := ?_) #[true, true, true, false, true, true, false, false, true, false, false, false] rfl rfl (by kernel_rfl) (fun _ _ _ h => h) (Or.inl ⟨by rfl, ?_⟩) hHeld ?_ ?_
      rotate_left
      · intro w' s0; go_simp; with_reducible rfl
      rotate_left
      · simp only [Act.put, List.setIfInBounds_toArray, List.set_cons_zero, List.set_cons_succ, i64_w, i32_w]; rfl
      refine pure_ (i := 6) (N := some 25) (v := ?_) (a' := ?_) #[true, true, true, false, true, true, true, false, true, false, false, false] rfl rfl (by kernel_rfl) (fun _ _ _ h => h) (Or.inl ⟨by rfl, ?_⟩) ?_ ?_
      rotate_left
      · intro w'; go_simp; with_reducible rfl
      rotate_left
      · simp only [Act.put, List.setIfInBounds_toArray, List.set_cons_zero, List.set_cons_succ, i64_w, i32_w]; rfl
      refine two_ (i := 3) (j := 7) (Ni := some 22) (Nj := some 26) #[true, true, true, true, true, true, true, false, true, false, false, false] #[true, true, true, false, true, true, true, true, true, false, false, false] rfl rfl rfl rfl (by kernel_rfl) (by decide) (by decide) (fun K hK => ?_) (fun K hK => ?_)
      · refine Kd.R_make_step Kd.string _ 9 (by rfl) (N := 22) rfl 25 _ _ rfl (cells.length : Int) rfl rfl Tryd.underlying25 (.string ⟨#[]⟩) 16 str_info rfl (by decide) (by decide) (⟨#[]⟩ : ByteArray) (ok := fun _ => True) (okp := fun _ => True) rfl (fun _ hk => hk) trivial (by omega) (by have := hz.l; omega) (Below.refl _ _) (Nat.le_refl _) ?_
        intro v3 w6 ho3 hb _ _
        rw [Int.toNat_natCast, ← hl3.out] at ho3
        obtain ⟨A39, k39, rfl⟩ := Kd.R_slice ho3
        have R3 := Kd.R_lower ho3 (below_size (below_drew hB.out))
        have bP6 := blk_below (blk_drew bP.out) hb
        have bT6 := blk_below (blk_drew bT.out) hb
        have hB6 := below_step (below_drew hB.out) hb
        clear hb ho3
        refine hK.out _ _ ((blk_cell bP6 6).trans rfl) (fun hHeld => ?_)
        clear hK K
        refine norm_ (a' := ?_) ?_ ?_
        rotate_left
        · show Act.put _ (some 22) _ = _
          simp only [Act.put, List.setIfInBounds_toArray, List.set_cons_zero, List.set_cons_succ, i64_w, i32_w]
          rfl
        refine one_ (i := 7) (N := some 26) #[true, true, true, true, true, true, true, true, true, false, false, false] rfl rfl (by kernel_rfl) (by decide) (fun K hK => ?_)
        refine Kd.R_make_step Kd.bool _ 4 (by rfl) (N := 26) rfl 22 _ _ rfl (cells.length : Int) rfl rfl Tryd.underlying22 (.bool false) 1 bool_info rfl (by decide) (by decide) false (ok := fun _ => True) (okp := fun _ => True) rfl (fun _ hk => hk) trivial (by omega) (by have := hz.l; omega) (Below.refl _ _) (Nat.le_refl _) ?_
        intro v7 w8 ho7 hb _ _
        rw [Int.toNat_natCast, ← hl7.out] at ho7
        obtain ⟨A79, k79, rfl⟩ := Kd.R_slice ho7
        have R7 := Kd.R_lower ho7 (below_size hB6)
        have R38 := Kd.R_below R3 hb
        have R78 := R7
        have bP8 := blk_below bP6 hb
        have bT8 := blk_below bT6 hb
        have hB8 := below_step hB6 hb
        clear hb ho7
        refine hK.out _ _ ((blk_cell bP8 6).trans rfl) (fun hHeld => ?_)
        clear hK K
        refine norm_ (a' := ?_) ?_ ?_
        rotate_left
        · show Act.put _ (some 26) _ = _
          simp only [Act.put, List.setIfInBounds_toArray, List.set_cons_zero, List.set_cons_succ, i64_w, i32_w]
          rfl
        refine pure_ (i := 9) (N := some 28) (v := ?_) (a' := ?_) #[true, true, true, true, true, true, true, true, true, true, false, false] rfl rfl (by kernel_rfl) (fun _ _ _ h => h) (Or.inl ⟨by rfl, ?_⟩) ?_ ?_
        rotate_left
        · intro w'; go_simp; with_reducible rfl
        rotate_left
        · simp only [Act.put, List.setIfInBounds_toArray, List.set_cons_zero, List.set_cons_succ, i64_w, i32_w]; rfl
        refine one_ (i := 10) (N := none) #[true, true, true, true, true, true, true, true, true, true, true, false] rfl rfl (by kernel_rfl) (by decide) (fun K hK => ?_)
        have t8 := cells4 bT8
        have f8 := frozen4 bT8
        have F8 := put4_facts bT8 (.slice A39 l3.length k39) (.slice A79 l7.length k79) (.int .i64 q) (.bool false)
        refine skip_ (w1 := put4 w8 (w.heap.size + 1) (.slice A39 l3.length k39) (.slice A79 l7.length k79) (.int .i64 q) (.bool false)) (by rfl) rfl (by first | (go_simp; done) | (go_simp; rfl)) ?_
        generalize put4 w8 (w.heap.size + 1) (.slice A39 l3.length k39) (.slice A79 l7.length k79) (.int .i64 q) (.bool false) = w9 at F8 ⊢
        have bP9 := (F8.2.1 _ (by omega)).trans bP8
        refine hK.out _ _ ((blk_cell bP9 6).trans rfl) (fun hHeld => ?_)
        clear hK K
        refine pure_ (i := 11) (N := some 3) (v := ?_) (a' := ?_) #[true, true, true, true, true, true, true, true, true, true, true, true] rfl rfl (by kernel_rfl) (fun _ _ _ h => h) (Or.inl ⟨by rfl, ?_⟩) ?_ ?_
        rotate_left
        · intro w'; go_simp; with_reducible rfl
        rotate_left
        · simp only [Act.put, List.setIfInBounds_toArray, List.set_cons_zero, List.set_cons_succ, i64_w, i32_w]; rfl
        refine done_ (by kernel_rfl) ?_
        try go_wp2
        refine bodyPost_ret (results_ct rfl _ _ (w.heap.size + 1) 30 #[.slice A39 l3.length k39, .slice A79 l7.length k79, .int .i64 q, .bool false] (0, 0) _ rfl F8.1 Tryd.underlying30 rfl (by kernel_rfl)) rfl ?_
        rw [hE.out]
        exact ⟨_, _, rfl, R_of_heap R38 bT8 (by decide) F8.2.1, R_of_heap R78 bT8 (by decide) F8.2.1, F8.2.2 _ _ hB8 (by omega)⟩
      · refine Kd.R_make_step Kd.bool _ 4 (by rfl) (N := 26) rfl 22 _ _ rfl (cells.length : Int) rfl rfl Tryd.underlying22 (.bool false) 1 bool_info rfl (by decide) (by decide) false (ok := fun _ => True) (okp := fun _ => True) rfl (fun _ hk => hk) trivial (by omega) (by have := hz.l; omega) (Below.refl _ _) (Nat.le_refl _) ?_
        intro v7 w6 ho7 hb _ _
        rw [Int.toNat_natCast, ← hl7.out] at ho7
        obtain ⟨A79, k79, rfl⟩ := Kd.R_slice ho7
        have R7 := Kd.R_lower ho7 (below_size (below_drew hB.out))
        have bP6 := blk_below (blk_drew bP.out) hb
        have bT6 := blk_below (blk_drew bT.out) hb
        have hB6 := below_step (below_drew hB.out) hb
        clear hb ho7
        refine hK.out _ _ ((blk_cell bP6 6).trans rfl) (fun hHeld => ?_)
        clear hK K
        refine norm_ (a' := ?_) ?_ ?_
        rotate_left
        · show Act.put _ (some 26) _ = _
          simp only [Act.put, List.setIfInBounds_toArray, List.set_cons_zero, List.set_cons_succ, i64_w, i32_w]
          rfl
        refine one_ (i := 3) (N := some 22) #[true, true, true, true, true, true, true, true, true, false, false, false] rfl rfl (by kernel_rfl) (by decide) (fun K hK => ?_)
        refine Kd.R_make_step Kd.string _ 9 (by rfl) (N := 22) rfl 25 _ _ rfl (cells.length : Int) rfl rfl Tryd.underlying25 (.string ⟨#[]⟩) 16 str_info rfl (by decide) (by decide) (⟨#[]⟩ : ByteArray) (ok := fun _ => True) (okp := fun _ => True) rfl (fun _ hk => hk) trivial (by omega) (by have := hz.l; omega) (Below.refl _ _) (Nat.le_refl _) ?_
        intro v3 w8 ho3 hb _ _
        rw [Int.toNat_natCast, ← hl3.out] at ho3
        obtain ⟨A39, k39, rfl⟩ := Kd.R_slice ho3
        have R3 := Kd.R_lower ho3 (below_size hB6)
        have R78 := Kd.R_below R7 hb
        have R38 := R3
        have bP8 := blk_below bP6 hb
        have bT8 := blk_below bT6 hb
        have hB8 := below_step hB6 hb
        clear hb ho3
        refine hK.out _ _ ((blk_cell bP8 6).trans rfl) (fun hHeld => ?_)
        clear hK K
        refine norm_ (a' := ?_) ?_ ?_
        rotate_left
        · show Act.put _ (some 22) _ = _
          simp only [Act.put, List.setIfInBounds_toArray, List.set_cons_zero, List.set_cons_succ, i64_w, i32_w]
          rfl
        refine pure_ (i := 9) (N := some 28) (v := ?_) (a' := ?_) #[true, true, true, true, true, true, true, true, true, true, false, false] rfl rfl (by kernel_rfl) (fun _ _ _ h => h) (Or.inl ⟨by rfl, ?_⟩) ?_ ?_
        rotate_left
        · intro w'; go_simp; with_reducible rfl
        rotate_left
        · simp only [Act.put, List.setIfInBounds_toArray, List.set_cons_zero, List.set_cons_succ, i64_w, i32_w]; rfl
        refine one_ (i := 10) (N := none) #[true, true, true, true, true, true, true, true, true, true, true, false] rfl rfl (by kernel_rfl) (by decide) (fun K hK => ?_)
        have t8 := cells4 bT8
        have f8 := frozen4 bT8
        have F8 := put4_facts bT8 (.slice A39 l3.length k39) (.slice A79 l7.length k79) (.int .i64 q) (.bool false)
        refine skip_ (w1 := put4 w8 (w.heap.size + 1) (.slice A39 l3.length k39) (.slice A79 l7.length k79) (.int .i64 q) (.bool false)) (by rfl) rfl (by first | (go_simp; done) | (go_simp; rfl)) ?_
        generalize put4 w8 (w.heap.size + 1) (.slice A39 l3.length k39) (.slice A79 l7.length k79) (.int .i64 q) (.bool false) = w9 at F8 ⊢
        have bP9 := (F8.2.1 _ (by omega)).trans bP8
        refine hK.out _ _ ((blk_cell bP9 6).trans rfl) (fun hHeld => ?_)
        clear hK K
        refine pure_ (i := 11) (N := some 3) (v := ?_) (a' := ?_) #[true, true, true, true, true, true, true, true, true, true, true, true] rfl rfl (by kernel_rfl) (fun _ _ _ h => h) (Or.inl ⟨by rfl, ?_⟩) ?_ ?_
        rotate_left
        · intro w'; go_simp; with_reducible rfl
        rotate_left
        · simp only [Act.put, List.setIfInBounds_toArray, List.set_cons_zero, List.set_cons_succ, i64_w, i32_w]; rfl
        refine done_ (by kernel_rfl) ?_
        try go_wp2
        refine bodyPost_ret (results_ct rfl _ _ (w.heap.size + 1) 30 #[.slice A39 l3.length k39, .slice A79 l7.length k79, .int .i64 q, .bool false] (0, 0) _ rfl F8.1 Tryd.underlying30 rfl (by kernel_rfl)) rfl ?_
        rw [hE.out]
        exact ⟨_, _, rfl, R_of_heap R38 bT8 (by decide) F8.2.1, R_of_heap R78 bT8 (by decide) F8.2.1, F8.2.2 _ _ hB8 (by omega)⟩
  · have tp : (pcheck title H W bl ri be cells clues != 0) = true := bne_iff_ne.2 hp
    have hv : sstart title H W bl ri be cells clues = ([], [], 0, false, pcheck title H W bl ri be cells clues) := by unfold sstart; rw [if_neg hp]
    rw [hv]
    clear hv hp
    obtain ⟨pe, hpe⟩ : ∃ x, pcheck title H W bl ri be cells clues = x := ⟨_, rfl⟩
    rw [hpe] at tp hck ⊢
    replace hpe := Lib.hid hpe
    replace hck := Lib.hid hck
    go_enter Tryd.func8, Tryd.ntmps8
    go_wp2_with (first
      | (go_at_call 20; go_must (have hPx := hP.below hx.out.2.2; refine (page_Check.calls _ title H W _ c2 bl _ c3 ri _ c4 be _ c5 cells _ c6 clues _ _ hPx.r2 hPx.k2 hPx.r3 hPx.k3 hPx.r4 hPx.k4 hPx.r5 hPx.k5 hPx.r6 hPx.k6 (tabs_below hT hx.out.2.2) hck.out).mono ?_; rintro e w3 ⟨rfl, hb3⟩; have hB3 := Lib.hid (below_step hx.out.2.2 hb3); have bP := Lib.hid (blk_below hx.out.1 hb3); have bT := Lib.hid (blk_below hx.out.2.1 hb3); have p3 := cells8 bP.out; have t3 := cells4 bT.out; have f3 := frozen4 bT.out; have y3 := blk_lt bT.out; clear hb3 hPx))
      | ((with_reducible refine gate_store (t := 30) (p := 2) (v := .tmp 10) rfl ?_); go_must (refine store_event (w1 := put4 w3 (w.heap.size + 1) (.slice none 0 0) (.slice none 0 0) (.int .i64 0) (.bool false)) (by rfl) (by rfl) (by rfl) ?hr ?_; (case hr => first | (go_simp; done) | (go_simp; rfl)); intro w5 hw5; have Fw5 := put4_facts bT.out (.slice none 0 0) (.slice none 0 0) (.int .i64 0) (.bool false); rw [← hw5] at Fw5; have hB5 := Lib.hid (Fw5.2.2 _ _ hB3.out (by omega)); have bT5 := Lib.hid Fw5.1; clear hw5 Fw5)))
    refine bodyPost_ret (results_ct rfl _ _ (w.heap.size + 1) 30 #[.slice none 0 0, .slice none 0 0, .int .i64 0, .bool false] (0, 0) _ rfl bT5.out Tryd.underlying30 rfl (by kernel_rfl)) rfl ?_
    exact ⟨_, _, rfl, Kd.R_nil _ _ _ _ _, Kd.R_nil _ _ _ _ _, hB5.out⟩
theorem check_calls {title : ByteArray} {H W : Int} {A2 : Option Addr} {c2 : Nat} {bl : List Bool} {A3 : Option Addr} {c3 : Nat} {ri : List Bool} {A4 : Option Addr} {c4 : Nat} {be : List Bool} {A5 : Option Addr} {c5 : Nat} {cells : List ByteArray} {A6 : Option Addr} {c6 : Nat} {clues : List ByteArray} {A7 : Option Addr} {c7 : Nat} {sc : List ByteArray} {A8 : Option Addr} {c8 : Nat} {ss : List Bool} {at_ : Int} {dn : Bool} {w : World} (hT : Tabs w) (hP : PuzR A2 c2 bl A3 c3 ri A4 c4 be A5 c5 cells A6 c6 clues w) (hS : ShtR A7 c7 sc A8 c8 ss w) (hz : PuzS title cells clues) (hzs : Small sc) :
    Calls Tryd.prog 13 #[.agg #[.string title, .int .i64 H, .int .i64 W, .slice A2 bl.length c2, .slice A3 ri.length c3, .slice A4 be.length c4, .slice A5 cells.length c5, .slice A6 clues.length c6], .agg #[.slice A7 sc.length c7, .slice A8 ss.length c8, .int .i64 at_, .bool dn]] w fun e w' => e = .returned (.int .i64 (scheck title H W bl ri be cells clues sc ss at_)) ∧ Below w.heap.size w w' :=
  sheet_Check.calls _ _ _ _ _ _ _ _ _ _ _ _ _ _ _ _ _ _ _ _ _ _ _ _ _ _ _ _ _ hP.r2 hP.k2 hP.r3 hP.k3 hP.r4 hP.k4 hP.r5 hP.k5 hP.r6 hP.k6 hS.r7 hS.k7 hS.r8 hS.k8 hT (sheet_Check_eq title H W bl ri be cells clues sc ss at_ dn hz.t hz.s hz.c hzs hz.l hz.m _ (Nat.le_refl _))
set_option maxHeartbeats 8000000 in
set_option maxRecDepth 1000000 in
theorem done_calls {title : ByteArray} {H W : Int} {A2 : Option Addr} {c2 : Nat} {bl : List Bool} {A3 : Option Addr} {c3 : Nat} {ri : List Bool} {A4 : Option Addr} {c4 : Nat} {be : List Bool} {A5 : Option Addr} {c5 : Nat} {cells : List ByteArray} {A6 : Option Addr} {c6 : Nat} {clues : List ByteArray} {A7 : Option Addr} {c7 : Nat} {sc : List ByteArray} {A8 : Option Addr} {c8 : Nat} {ss : List Bool} {at_ : Int} {dn : Bool} {w : World} (hT : Tabs w) (hP : PuzR A2 c2 bl A3 c3 ri A4 c4 be A5 c5 cells A6 c6 clues w) (hS : ShtR A7 c7 sc A8 c8 ss w) (hz : PuzS title cells clues) (hzs : Small sc) :
    Calls Tryd.prog 10 #[.agg #[.string title, .int .i64 H, .int .i64 W, .slice A2 bl.length c2, .slice A3 ri.length c3, .slice A4 be.length c4, .slice A5 cells.length c5, .slice A6 clues.length c6], .agg #[.slice A7 sc.length c7, .slice A8 ss.length c8, .int .i64 at_, .bool dn]] w fun e w' => e = .returned (.bool (sdone title H W bl ri be cells clues sc ss at_)) ∧ Below w.heap.size w w' := by
  have hx := box2 w (.cells #[.string title, .int .i64 H, .int .i64 W, .slice A2 bl.length c2, .slice A3 ri.length c3, .slice A4 be.length c4, .slice A5 cells.length c5, .slice A6 clues.length c6] 27) (.cells #[.slice A7 sc.length c7, .slice A8 ss.length c8, .int .i64 at_, .bool dn] 30)
  replace hx := Lib.hid hx
  have hu27 := Tryd.underlying27
  have hu30 := Tryd.underlying30
  by_cases hp : scheck title H W bl ri be cells clues sc ss at_ = 0
  · have tp : ((0 : Int) != 0) = false := rfl
    have hsl : sc.length = cells.length := (scheck_ok hp).2.1
    have hv : sdone title H W bl ri be cells clues sc ss at_ = !slacks cells sc cells.length 0 := by unfold sdone; rw [decide_eq_true hp, Bool.true_and]
    rw [hv]
    clear hv
    obtain ⟨V, hV⟩ : ∃ V, (!slacks cells sc cells.length 0) = V := ⟨_, rfl⟩
    rw [hV]
    replace hV := Lib.hid hV
    replace hsl := Lib.hid hsl
    replace hp := Lib.hid hp
    go_enter Tryd.func10, Tryd.ntmps10
    go_wp2_with (first
      | (go_at_call 13; go_must (refine (check_calls (tabs_below hT hx.out.2.2) (hP.below hx.out.2.2) (hS.below hx.out.2.2) hz hzs).mono ?_; rintro e w3 ⟨rfl, hb3⟩; rw [hp.out]; have hB3 := Lib.hid (below_step hx.out.2.2 hb3); have bP := Lib.hid (blk_below hx.out.1 hb3); have bS := Lib.hid (blk_below hx.out.2.1 hb3); have p3 := cells8 bP.out; have s3 := cells4 bS.out; clear hb3)))
    go_loopw [14] (fun v14 wr => ∃ (i : Nat) (q : Int), v14 = .int .i64 q ∧ Hid (q = i ∧ i ≤ cells.length) ∧ Hid (slacks cells sc cells.length 0 = slacks cells sc (cells.length - i) i) ∧ Hid (wr.heap[w.heap.size]? = some (.cells #[.string title, .int .i64 H, .int .i64 W, .slice A2 bl.length c2, .slice A3 ri.length c3, .slice A4 be.length c4, .slice A5 cells.length c5, .slice A6 clues.length c6] 27 (0, 0))) ∧ Hid (wr.heap[w.heap.size + 1]? = some (.cells #[.slice A7 sc.length c7, .slice A8 ss.length c8, .int .i64 at_, .bool dn] 30 (0, 0))) ∧ Hid (Below w.heap.size w wr)) (fun v14 _ => cells.length - (intOf v14).toNat)
    case atStart => exact ⟨0, 0, rfl, Lib.hid ⟨rfl, Nat.zero_le _⟩, Lib.hid rfl, bP, bS, hB3⟩
    case round =>
      clear hB3 bP bS p3 s3 tp
      obtain ⟨i, q, rfl, hq, hrb, bP, bS, hB⟩ := hrel
      have p4 := cells8 bP.out
      have s4 := cells4 bS.out
      by_cases hlt : i < cells.length
      · have hq0 : 0 ≤ q := by have := hq.out; omega
        have hq1 : q < (cells.length : Int) := by have := hq.out; omega
        have hq2 : q < (sc.length : Int) := by have := hsl.out; omega
        have hq3 : q < 1048576 := by have := hz.l; omega
        obtain ⟨ad, eA, zx⟩ := Kd.at_string (hP.below hB.out).r5 q hq0 hq1
        obtain ⟨ad2, eA2, zb⟩ := Kd.at_string (hS.below hB.out).r7 q hq0 hq2
        cases eA
        cases eA2
        have hst := slacks_step (cells := cells) (sc := sc) hlt
        rw [← hq.out.1] at hst
        obtain ⟨xa, hxa⟩ : ∃ x, rdOf ByteArray.empty cells q = x := ⟨_, rfl⟩
        obtain ⟨xb, hxb⟩ : ∃ x, rdOf ByteArray.empty sc q = x := ⟨_, rfl⟩
        rw [hxa, hxb] at hst
        rw [hxa] at zx
        rw [hxb] at zb
        clear hxa hxb
        by_cases hne : xa.toList = []
        · have te : xa.toList.isEmpty = true := by rw [hne]; rfl
          rw [te] at hst
          have hE : slacks cells sc cells.length 0 = slacks cells sc (cells.length - (i + 1)) (i + 1) := by rw [hrb.out, hst]; rfl
          replace hE := Lib.hid hE
          replace hlt := Lib.hid hlt
          clear hst hrb
          go_wp2
          refine ⟨⟨i + 1, q + 1, rfl, Lib.hid ⟨by have := hq.out; omega, hlt.out⟩, hE, bP, bS, hB⟩, ?_⟩
          simp only [intOf]; have := hq.out; have := hlt.out; omega
        · have te : xa.toList.isEmpty = false := toList_nil.2 hne
          rw [te] at hst
          by_cases hE2 : xb.toList = xa.toList
          · have tE : (xb.toList == xa.toList) = true := by simpa using hE2
            rw [decide_eq_true hE2] at hst
            have hE : slacks cells sc cells.length 0 = slacks cells sc (cells.length - (i + 1)) (i + 1) := by rw [hrb.out, hst]; rfl
            replace hE := Lib.hid hE
            replace hlt := Lib.hid hlt
            clear hst hrb
            go_wp2
            refine ⟨⟨i + 1, q + 1, rfl, Lib.hid ⟨by have := hq.out; omega, hlt.out⟩, hE, bP, bS, hB⟩, ?_⟩
            simp only [intOf]; have := hq.out; have := hlt.out; omega
          · have tE : (xb.toList == xa.toList) = false := by simpa using hE2
            rw [decide_eq_false hE2] at hst
            have hE : slacks cells sc cells.length 0 = true := by rw [hrb.out, hst]; rfl
            replace hE := Lib.hid hE
            clear hst hrb
            go_wp2
            go_ret
            exact ⟨by rw [← hV.out, hE.out]; rfl, hB.out⟩
      · have hge : ¬ q < (cells.length : Int) := by have := hq.out; omega
        have hE : slacks cells sc cells.length 0 = false := by rw [hrb.out, show cells.length - i = 0 by have := hq.out; omega]; rfl
        replace hE := Lib.hid hE
        clear hrb
        go_wp2
        go_ret
        exact ⟨by rw [← hV.out, hE.out]; rfl, hB.out⟩
  · have tp : (scheck title H W bl ri be cells clues sc ss at_ != 0) = true := bne_iff_ne.2 hp
    have hv : sdone title H W bl ri be cells clues sc ss at_ = false := by unfold sdone; rw [decide_eq_false hp, Bool.false_and]
    rw [hv]
    clear hv hp
    obtain ⟨pe, hpe⟩ : ∃ x, scheck title H W bl ri be cells clues sc ss at_ = x := ⟨_, rfl⟩
    rw [hpe] at tp
    replace hpe := Lib.hid hpe
    go_enter Tryd.func10, Tryd.ntmps10
    go_wp2_with (first
      | (go_at_call 13; go_must (refine (check_calls (tabs_below hT hx.out.2.2) (hP.below hx.out.2.2) (hS.below hx.out.2.2) hz hzs).mono ?_; rintro e w3 ⟨rfl, hb3⟩; rw [hpe.out]; have hB3 := Lib.hid (below_step hx.out.2.2 hb3); have bP := Lib.hid (blk_below hx.out.1 hb3); have bS := Lib.hid (blk_below hx.out.2.1 hb3); have p3 := cells8 bP.out; have s3 := cells4 bS.out; clear hb3)))
    go_ret
    exact ⟨rfl, hB3.out⟩
set_option maxHeartbeats 8000000 in
set_option maxRecDepth 1000000 in
theorem wrong_calls {title : ByteArray} {H W : Int} {A2 : Option Addr} {c2 : Nat} {bl : List Bool} {A3 : Option Addr} {c3 : Nat} {ri : List Bool} {A4 : Option Addr} {c4 : Nat} {be : List Bool} {A5 : Option Addr} {c5 : Nat} {cells : List ByteArray} {A6 : Option Addr} {c6 : Nat} {clues : List ByteArray} {A7 : Option Addr} {c7 : Nat} {sc : List ByteArray} {A8 : Option Addr} {c8 : Nat} {ss : List Bool} {at_ : Int} {dn : Bool} {w : World} (hT : Tabs w) (hP : PuzR A2 c2 bl A3 c3 ri A4 c4 be A5 c5 cells A6 c6 clues w) (hS : ShtR A7 c7 sc A8 c8 ss w) (hz : PuzS title cells clues) (hzs : Small sc) :
    Calls Tryd.prog 16 #[.agg #[.string title, .int .i64 H, .int .i64 W, .slice A2 bl.length c2, .slice A3 ri.length c3, .slice A4 be.length c4, .slice A5 cells.length c5, .slice A6 clues.length c6], .agg #[.slice A7 sc.length c7, .slice A8 ss.length c8, .int .i64 at_, .bool dn]] w fun e w' => ∃ v : Value, e = .returned (.tuple #[v, .int .i64 (swrong title H W bl ri be cells clues sc ss at_).2]) ∧ Kd.R (Kd.int .i64) 3 w' w.heap.size (fun _ => True) v (swrong title H W bl ri be cells clues sc ss at_).1 ∧ Below w.heap.size w w' := by
  have hx := box2 w (.cells #[.string title, .int .i64 H, .int .i64 W, .slice A2 bl.length c2, .slice A3 ri.length c3, .slice A4 be.length c4, .slice A5 cells.length c5, .slice A6 clues.length c6] 27) (.cells #[.slice A7 sc.length c7, .slice A8 ss.length c8, .int .i64 at_, .bool dn] 30)
  replace hx := Lib.hid hx
  have hu27 := Tryd.underlying27
  have hu30 := Tryd.underlying30
  by_cases hp : scheck title H W bl ri be cells clues sc ss at_ = 0
  · have tp : ((0 : Int) != 0) = false := rfl
    have hsl : sc.length = cells.length := (scheck_ok hp).2.1
    have hv : swrong title H W bl ri be cells clues sc ss at_ = (wrongs cells sc sc.length 0, 0) := by unfold swrong; rw [if_pos hp]
    rw [hv]
    clear hv
    obtain ⟨V, hV⟩ : ∃ V, wrongs cells sc sc.length 0 = V := ⟨_, rfl⟩
    rw [hV]
    dsimp only
    replace hsl := Lib.hid hsl
    replace hp := Lib.hid hp
    go_enter Tryd.func16, Tryd.ntmps16
    go_wp2_with (first
      | (go_at_call 13; go_must (refine (check_calls (tabs_below hT hx.out.2.2) (hP.below hx.out.2.2) (hS.below hx.out.2.2) hz hzs).mono ?_; rintro e w3 ⟨rfl, hb3⟩; rw [hp.out]; have hB3 := Lib.hid (below_step hx.out.2.2 hb3); have bP := Lib.hid (blk_below hx.out.1 hb3); have bS := Lib.hid (blk_below hx.out.2.1 hb3); have p3 := cells8 bP.out; have s3 := cells4 bS.out; clear hb3)))
    go_loopw [7, 19] (fun v7 v19 wr => ∃ (i : Nat) (q : Int) (xs : List Int), v19 = .int .i64 q ∧ Hid (q = i ∧ i ≤ sc.length) ∧ Hid (V = xs ++ wrongs cells sc (sc.length - i) i) ∧ Hid (xs.length ≤ i) ∧ Hid (Kd.R (Kd.int .i64) 3 wr w.heap.size (fun _ => True) v7 xs) ∧ Hid (wr.heap[w.heap.size]? = some (.cells #[.string title, .int .i64 H, .int .i64 W, .slice A2 bl.length c2, .slice A3 ri.length c3, .slice A4 be.length c4, .slice A5 cells.length c5, .slice A6 clues.length c6] 27 (0, 0))) ∧ Hid (wr.heap[w.heap.size + 1]? = some (.cells #[.slice A7 sc.length c7, .slice A8 ss.length c8, .int .i64 at_, .bool dn] 30 (0, 0))) ∧ Hid (Below w.heap.size w wr)) (fun v7 v19 _ => sc.length - (intOf v19).toNat)
    case atStart => exact ⟨0, 0, [], rfl, Lib.hid ⟨rfl, Nat.zero_le _⟩, Lib.hid hV.symm, Lib.hid (Nat.zero_le _), Lib.hid (Kd.R_nil _ _ _ _ _), bP, bS, hB3⟩
    case round =>
      clear hB3 bP bS p3 s3 tp hV
      obtain ⟨i, q, xs, rfl, hq, hrb, hxl, hO, bP, bS, hB⟩ := hrel
      have p4 := cells8 bP.out
      have s4 := cells4 bS.out
      by_cases hlt : i < sc.length
      · have hq0 : 0 ≤ q := by have := hq.out; omega
        have hq1 : q < (sc.length : Int) := by have := hq.out; omega
        have hq2 : q < (cells.length : Int) := by have := hsl.out; omega
        have hq3 : q < 1048576 := by have := hz.l; omega
        obtain ⟨ad, eA, zx⟩ := Kd.at_string (hP.below hB.out).r5 q hq0 hq2
        obtain ⟨ad2, eA2, zb⟩ := Kd.at_string (hS.below hB.out).r7 q hq0 hq1
        cases eA
        cases eA2
        have hst := wrongs_step (cells := cells) (sc := sc) hlt
        rw [← hq.out.1] at hst
        obtain ⟨xa, hxa⟩ : ∃ x, rdOf ByteArray.empty cells q = x := ⟨_, rfl⟩
        obtain ⟨xb, hxb⟩ : ∃ x, rdOf ByteArray.empty sc q = x := ⟨_, rfl⟩
        rw [hxa, hxb] at hst
        rw [hxa] at zx
        rw [hxb] at zb
        clear hxa hxb
        by_cases hne : xb.toList = []
        · have te : xb.toList.isEmpty = true := by rw [hne]; rfl
          rw [if_pos hne] at hst
          have hE : V = xs ++ wrongs cells sc (sc.length - (i + 1)) (i + 1) := by rw [hrb.out, hst]
          replace hE := Lib.hid hE
          replace hlt := Lib.hid hlt
          clear hst hrb
          go_wp2
          refine ⟨⟨i + 1, q + 1, xs, rfl, Lib.hid ⟨by have := hq.out; omega, hlt.out⟩, hE, Lib.hid (by have := hxl.out; omega), hO, bP, bS, hB⟩, ?_⟩
          simp only [intOf]; have := hq.out; have := hlt.out; omega
        · have te : xb.toList.isEmpty = false := toList_nil.2 hne
          rw [if_neg hne] at hst
          by_cases hn2 : xa.toList = []
          · have te2 : xa.toList.isEmpty = true := by rw [hn2]; rfl
            rw [if_pos hn2] at hst
            have hE : V = xs ++ wrongs cells sc (sc.length - (i + 1)) (i + 1) := by rw [hrb.out, hst]
            replace hE := Lib.hid hE
            replace hlt := Lib.hid hlt
            clear hst hrb
            go_wp2
            refine ⟨⟨i + 1, q + 1, xs, rfl, Lib.hid ⟨by have := hq.out; omega, hlt.out⟩, hE, Lib.hid (by have := hxl.out; omega), hO, bP, bS, hB⟩, ?_⟩
            simp only [intOf]; have := hq.out; have := hlt.out; omega
          · have te2 : xa.toList.isEmpty = false := toList_nil.2 hn2
            rw [if_neg hn2] at hst
            by_cases hE2 : xb.toList = xa.toList
            · have tE : (xb.toList == xa.toList) = true := by simpa using hE2
              rw [if_pos hE2] at hst
              have hE : V = xs ++ wrongs cells sc (sc.length - (i + 1)) (i + 1) := by rw [hrb.out, hst]
              replace hE := Lib.hid hE
              replace hlt := Lib.hid hlt
              clear hst hrb
              go_wp2
              refine ⟨⟨i + 1, q + 1, xs, rfl, Lib.hid ⟨by have := hq.out; omega, hlt.out⟩, hE, Lib.hid (by have := hxl.out; omega), hO, bP, bS, hB⟩, ?_⟩
              simp only [intOf]; have := hq.out; have := hlt.out; omega
            · have tE : (xb.toList == xa.toList) = false := by simpa using hE2
              rw [if_neg hE2] at hst
              have hE : V = (xs ++ [q]) ++ wrongs cells sc (sc.length - (i + 1)) (i + 1) := by rw [hrb.out, hst, List.append_assoc]; rfl
              replace hE := Lib.hid hE
              replace hlt := Lib.hid hlt
              have hlen : xs.length + 1 < 17592186044416 := by have := hxl.out; have := hlt.out; have := hsl.out; have := hz.l; omega
              replace hlen := Lib.hid hlen
              clear hst hrb
              go_wp2_with (first
                | ((with_reducible refine gate_builtin (b := .append) (xs := #[.tmp 43, .tmp 45]) rfl ?_); go_must (at_builtin; refine Kd.R_append (Kd.int .i64) (w0 := w) w.heap.size rfl (.tmp 43) (.tmp 45) 45 3 (.int .i64 0) 8 rfl Tryd.underlying45 int_info rfl (by decide) (by decide) _ xs q [.int .i64 q] (fun _ => True) (fun _ => False) rfl rfl ?aP (fun _ hk => hk.elim) ?aF ?aO ?aB ?aS ?aL ?_; (case aP => exact rfl); (case aB => exact hB.out); (case aF => exact (fun _ _ => trivial)); (case aO => exact hO.out); (case aS => exact hB.out.size); (case aL => have := hlen.out; omega); intro v6 w6 ho6 hb6 hg6 hat6)))
              refine ⟨⟨i + 1, q + 1, xs ++ [q], rfl, Lib.hid ⟨by have := hq.out; omega, hlt.out⟩, hE, Lib.hid (by have := hxl.out; simp only [List.length_append, List.length_singleton]; omega), Lib.hid ho6, Lib.hid (blk_grown bP.out hg6 (Kd.R_ne (hO.out) (bP.out) (by decide))), Lib.hid (blk_grown (bS.out) hg6 (Kd.R_ne (hO.out) (bS.out) (by decide))), Lib.hid hb6⟩, ?_⟩
              simp only [intOf]; have := hq.out; have := hlt.out; omega
      · have hge : ¬ q < (sc.length : Int) := by have := hq.out; omega
        have hE : V = xs := by rw [hrb.out, show sc.length - i = 0 by have := hq.out; omega]; simp [wrongs]
        replace hE := Lib.hid hE
        clear hrb
        go_wp2
        go_ret2
        exact ⟨_, rfl, by rw [hE.out]; exact hO.out, hB.out⟩
  · have tp : (scheck title H W bl ri be cells clues sc ss at_ != 0) = true := bne_iff_ne.2 hp
    have hv : swrong title H W bl ri be cells clues sc ss at_ = ([], scheck title H W bl ri be cells clues sc ss at_) := by unfold swrong; rw [if_neg hp]
    rw [hv]
    clear hv hp
    obtain ⟨pe, hpe⟩ : ∃ x, scheck title H W bl ri be cells clues sc ss at_ = x := ⟨_, rfl⟩
    rw [hpe] at tp ⊢
    dsimp only
    replace hpe := Lib.hid hpe
    go_enter Tryd.func16, Tryd.ntmps16
    go_wp2_with (first
      | (go_at_call 13; go_must (refine (check_calls (tabs_below hT hx.out.2.2) (hP.below hx.out.2.2) (hS.below hx.out.2.2) hz hzs).mono ?_; rintro e w3 ⟨rfl, hb3⟩; rw [hpe.out]; have hB3 := Lib.hid (below_step hx.out.2.2 hb3); have bP := Lib.hid (blk_below hx.out.1 hb3); have bS := Lib.hid (blk_below hx.out.2.1 hb3); have p3 := cells8 bP.out; have s3 := cells4 bS.out; clear hb3)))
    go_ret2
    exact ⟨_, rfl, Kd.R_nil _ _ _ _ _, hB3.out⟩
end Go.Proofs.YtiipailmldbpbaaDoor.Q
end
section
namespace Go.Proofs.YtiipailmldbpbaaDoor.Q
open Go.RowKit Go.Proofs.YtiipailmldbpbaaDoorW.PrintWords Go.Proofs.YtiipailmldbpbaaDoorW.PrintLast Go.Proofs.YtiipailmldbpbaaDoorW.PrintMore
attribute [local go_sem] max2_int min2_int max_two min_two max_three min_three max_four min_four
set_option linter.unusedVariables false
set_option linter.unusedSimpArgs false
open Go.Proofs.YtiipailmldbpbaaDoorS
def rebuslaw23_two.T1 : Bool × List (List Nat × List Nat) := (true, [([], []), ([], []), ([], []), ([0, 1, 2], [0, 1, 2]), ([], []), ([], []), ([3, 4, 5], [3, 4, 5]), ([6, 0, 1, 2, 3, 4, 5, 6], [6])])
def rebuslaw23_two.B1 : List Nat := [0, 0, 0, 7, 0, 0, 63, 127]
theorem rebuslaw23_two.tab1 : rtab .any (opsOf Tryd.f19 1) = rebuslaw23_two.T1 := by kernel_rfl
theorem rebuslaw23_two.bits1 : waitsOk rebuslaw23_two.T1.2 rebuslaw23_two.B1 = true := by kernel_rfl
def twoRow : List Bool := List.replicate 2 false
def twoCells : List ByteArray := [⟨#[67]⟩, ⟨#[67, 72]⟩]
def twoClues : List ByteArray := [⟨#[]⟩]
set_option maxHeartbeats 8000000 in
set_option maxRecDepth 100000 in
theorem rebuslaw23_two.calls (w : World) :
    Calls Tryd.prog 19 #[] w fun e w' => ∃ v0 v1 v2 v3 v4 : Value, e = .returned (.agg #[.string ⟨#[]⟩, .int .i64 1, .int .i64 2, v0, v1, v2, v3, v4]) ∧ Kd.R Kd.bool 4 w' w.heap.size (fun _ => True) v0 twoRow ∧ Kd.R Kd.bool 4 w' w.heap.size (fun _ => True) v1 twoRow ∧ Kd.R Kd.bool 4 w' w.heap.size (fun _ => True) v2 twoRow ∧ Kd.R Kd.string 9 w' w.heap.size (fun _ => True) v3 twoCells ∧ Kd.R Kd.string 9 w' w.heap.size (fun _ => True) v4 twoClues ∧ Below w.heap.size w w' := by
  have hu27 := Tryd.underlying27
  have hu24 := Tryd.underlying24
  go_enter Tryd.func19, Tryd.ntmps19
  go_wp2
  have BK := blk_drew (blk_new w (.cells #[.string (⟨#[]⟩ : ByteArray), .int .i64 0, .int .i64 0, .slice none 0 0, .slice none 0 0, .slice none 0 0, .slice none 0 0, .slice none 0 0] 27 (0, 0)))
  have HB := below_drew (below_alloc (Below.refl w.heap.size w) (.cells #[.string (⟨#[]⟩ : ByteArray), .int .i64 0, .int .i64 0, .slice none 0 0, .slice none 0 0, .slice none 0 0, .slice none 0 0, .slice none 0 0] 27 (0, 0)))
  obtain ⟨g, hg⟩ : ∃ g, w.heap.size = g := ⟨_, rfl⟩
  refine start_ (n := 8) (S := fun w' => True) (ds := []) #[false, false, false, false, false, false, false, false] (by kernel_rfl) rfl rfl trivial (fun hHeld => ?_)
  refine with_tabW rebuslaw23_two.tab1 rebuslaw23_two.bits1 (fun HT_ HW_ => ?_)
  generalize (w.alloc (.cells #[.string (⟨#[]⟩ : ByteArray), .int .i64 0, .int .i64 0, .slice none 0 0, .slice none 0 0, .slice none 0 0, .slice none 0 0, .slice none 0 0] 27 (0, 0))).drew = w3 at BK HB hHeld ⊢
  rw [hg] at BK HB ⊢
  refine inv_at [0, 1, 2, 3, 4, 5, 6, 7] (fun a0_ b a w' => ∃ v0 v1 v2 v3 v4 m3 m6 : Value, a = putSel a0_ b [(0, 1, v0), (1, 2, v1), (2, 3, v2), (3, 4, m3), (4, 5, v3), (5, 6, v4), (6, 7, m6)] ∧ (b 7 = false → w'.heap[g]? = some (.cells #[.string (⟨#[]⟩ : ByteArray), .int .i64 0, .int .i64 0, .slice none 0 0, .slice none 0 0, .slice none 0 0, .slice none 0 0, .slice none 0 0] 27 (0, 0))) ∧ Below g w w' ∧ (b 0 = true → Kd.R Kd.bool 4 w' g (fun _ => True) v0 twoRow) ∧ (b 1 = true → Kd.R Kd.bool 4 w' g (fun _ => True) v1 twoRow) ∧ (b 2 = true → Kd.R Kd.bool 4 w' g (fun _ => True) v2 twoRow) ∧ (b 4 = true → Kd.R Kd.string 9 w' g (fun _ => True) v3 twoCells) ∧ (b 5 = true → Kd.R Kd.string 9 w' g (fun _ => True) v4 twoClues) ∧ (b 7 = true → w'.heap[g]? = some (.cells #[.string (⟨#[]⟩ : ByteArray), .int .i64 1, .int .i64 2, v0, v1, v2, v3, v4] 27 (0, 0))) ∧ (b 3 = true → m3 = .agg #[.int .i64 1, .int .i64 2, v0, v1, v2]) ∧ (b 6 = true → m6 = .agg #[.string (⟨#[]⟩ : ByteArray), .int .i64 1, .int .i64 2, v0, v1, v2, v3, v4])) HT_.out HW_.out (by kernel_rfl) (by kernel_rfl) ?_ ?_ ?_
  · exact ⟨.bool false, .bool false, .bool false, .bool false, .bool false, .bool false, .bool false, by simp only [putSel, Bool.false_eq_true, if_false], fun _ => BK, HB, fun h_ => absurd h_ (by decide), fun h_ => absurd h_ (by decide), fun h_ => absurd h_ (by decide), fun h_ => absurd h_ (by decide), fun h_ => absurd h_ (by decide), fun h_ => absurd h_ (by decide), fun h_ => absurd h_ (by decide), fun h_ => absurd h_ (by decide)⟩
  · clear BK HB
    refine steps_cons ?_ ?_
    · rintro b a w' ⟨v0, v1, v2, v3, v4, m3, m6, ha, QB, QH, R0, R1, R2, R3, R4, QF, X3, X6⟩ hb_ hon hoff
      refine ⟨_, rfl, fun K hK => ?_⟩
      have hsz : g ≤ w'.heap.size := by rw [← hg]; exact QH.size
      have hB := QB (hoff 7 (by kernel_rfl))
      refine Kd.R_make_step Kd.bool _ 4 (by rfl) (N := 1) rfl 22 _ _ rfl 2 rfl rfl Tryd.underlying22 (.bool false) 1 bool_info rfl (by decide) (by decide) false (ok := fun _ => True) (okp := fun _ => True) rfl (fun _ hk => hk) trivial (by decide) (by decide) (Below.refl _ _) (Nat.le_refl _) ?_
      intro v0 w4 ho hb _ _
      refine hK.out _ _ ⟨v0, v1, v2, v3, v4, m3, m6, (by rw [ha]; exact putSel_upk 0 hb_ rfl rfl rfl), fun _ => blk_below hB hb, QH.trans (hb.mono hsz), fun _ => Kd.R_lower ho hsz, fun h_ => Kd.R_below (R1 h_) hb, fun h_ => Kd.R_below (R2 h_) hb, fun h_ => Kd.R_below (R3 h_) hb, fun h_ => Kd.R_below (R4 h_) hb, fun h_ => absurd ((hoff 7 (by kernel_rfl)).symm.trans h_) (by decide), fun h_ => absurd ((hoff 3 (by kernel_rfl)).symm.trans h_) (by decide), fun h_ => absurd ((hoff 6 (by kernel_rfl)).symm.trans h_) (by decide)⟩
    refine steps_cons ?_ ?_
    · rintro b a w' ⟨v0, v1, v2, v3, v4, m3, m6, ha, QB, QH, R0, R1, R2, R3, R4, QF, X3, X6⟩ hb_ hon hoff
      refine ⟨_, rfl, fun K hK => ?_⟩
      have hsz : g ≤ w'.heap.size := by rw [← hg]; exact QH.size
      have hB := QB (hoff 7 (by kernel_rfl))
      refine Kd.R_make_step Kd.bool _ 4 (by rfl) (N := 2) rfl 22 _ _ rfl 2 rfl rfl Tryd.underlying22 (.bool false) 1 bool_info rfl (by decide) (by decide) false (ok := fun _ => True) (okp := fun _ => True) rfl (fun _ hk => hk) trivial (by decide) (by decide) (Below.refl _ _) (Nat.le_refl _) ?_
      intro v1 w4 ho hb _ _
      refine hK.out _ _ ⟨v0, v1, v2, v3, v4, m3, m6, (by rw [ha]; exact putSel_upk 1 hb_ rfl rfl rfl), fun _ => blk_below hB hb, QH.trans (hb.mono hsz), fun h_ => Kd.R_below (R0 h_) hb, fun _ => Kd.R_lower ho hsz, fun h_ => Kd.R_below (R2 h_) hb, fun h_ => Kd.R_below (R3 h_) hb, fun h_ => Kd.R_below (R4 h_) hb, fun h_ => absurd ((hoff 7 (by kernel_rfl)).symm.trans h_) (by decide), fun h_ => absurd ((hoff 3 (by kernel_rfl)).symm.trans h_) (by decide), fun h_ => absurd ((hoff 6 (by kernel_rfl)).symm.trans h_) (by decide)⟩
    refine steps_cons ?_ ?_
    · rintro b a w' ⟨v0, v1, v2, v3, v4, m3, m6, ha, QB, QH, R0, R1, R2, R3, R4, QF, X3, X6⟩ hb_ hon hoff
      refine ⟨_, rfl, fun K hK => ?_⟩
      have hsz : g ≤ w'.heap.size := by rw [← hg]; exact QH.size
      have hB := QB (hoff 7 (by kernel_rfl))
      refine Kd.R_make_step Kd.bool _ 4 (by rfl) (N := 3) rfl 22 _ _ rfl 2 rfl rfl Tryd.underlying22 (.bool false) 1 bool_info rfl (by decide) (by decide) false (ok := fun _ => True) (okp := fun _ => True) rfl (fun _ hk => hk) trivial (by decide) (by decide) (Below.refl _ _) (Nat.le_refl _) ?_
      intro v2 w4 ho hb _ _
      refine hK.out _ _ ⟨v0, v1, v2, v3, v4, m3, m6, (by rw [ha]; exact putSel_upk 2 hb_ rfl rfl rfl), fun _ => blk_below hB hb, QH.trans (hb.mono hsz), fun h_ => Kd.R_below (R0 h_) hb, fun h_ => Kd.R_below (R1 h_) hb, fun _ => Kd.R_lower ho hsz, fun h_ => Kd.R_below (R3 h_) hb, fun h_ => Kd.R_below (R4 h_) hb, fun h_ => absurd ((hoff 7 (by kernel_rfl)).symm.trans h_) (by decide), fun h_ => absurd ((hoff 3 (by kernel_rfl)).symm.trans h_) (by decide), fun h_ => absurd ((hoff 6 (by kernel_rfl)).symm.trans h_) (by decide)⟩
    refine steps_cons ?_ ?_
    · rintro b a w' ⟨v0, v1, v2, v3, v4, m3, m6, ha, QB, QH, R0, R1, R2, R3, R4, QF, X3, X6⟩ hb_ hon hoff
      refine ⟨_, rfl, fun K hK => ?_⟩
      have hsz : g ≤ w'.heap.size := by rw [← hg]; exact QH.size
      have e1 : a.tmps[1]? = some v0 := by rw [ha]; exact putSel_on (e := (0, 1, v0)) 0 rfl rfl (hon 0 (by kernel_rfl)) rfl
      have e2 : a.tmps[2]? = some v1 := by rw [ha]; exact putSel_on (e := (1, 2, v1)) 1 rfl rfl (hon 1 (by kernel_rfl)) rfl
      have e3 : a.tmps[3]? = some v2 := by rw [ha]; exact putSel_on (e := (2, 3, v2)) 2 rfl rfl (hon 2 (by kernel_rfl)) rfl
      replace ha := Aside0.mk ha
      obtain ⟨A0, n0, c0, rfl⟩ := R_slice3 (R0 (hon 0 (by kernel_rfl)))
      obtain ⟨A1, n1, c1, rfl⟩ := R_slice3 (R1 (hon 1 (by kernel_rfl)))
      obtain ⟨A2, n2, c2, rfl⟩ := R_slice3 (R2 (hon 2 (by kernel_rfl)))
      refine value_ (w1 := w') (v := .agg #[.int .i64 1, .int .i64 2, .slice A0 n0 c0, .slice A1 n1 c1, .slice A2 n2 c2]) (by rfl) rfl ?_ ?_
      · go_simp
        (try simp only [i64_w])
        try rfl
      exact hK.out _ _ ⟨.slice A0 n0 c0, .slice A1 n1 c1, .slice A2 n2 c2, v3, v4, (.agg #[.int .i64 1, .int .i64 2, .slice A0 n0 c0, .slice A1 n1 c1, .slice A2 n2 c2]), m6, (by rw [ha.out]; exact putSel_upk 3 hb_ rfl rfl rfl), QB, QH, R0, R1, R2, R3, R4, fun h_ => absurd ((hoff 7 (by kernel_rfl)).symm.trans h_) (by decide), fun _ => rfl, fun h_ => absurd ((hoff 6 (by kernel_rfl)).symm.trans h_) (by decide)⟩
    refine steps_cons ?_ ?_
    · rintro b a w' ⟨v0, v1, v2, v3, v4, m3, m6, ha, QB, QH, R0, R1, R2, R3, R4, QF, X3, X6⟩ hb_ hon hoff
      refine ⟨_, rfl, fun K hK => ?_⟩
      have hsz : g ≤ w'.heap.size := by rw [← hg]; exact QH.size
      have hB := QB (hoff 7 (by kernel_rfl))
      refine Kd.R_lit_step Kd.string _ 9 ?hg (N := 5) ?hd (xs := ([(⟨#[67]⟩ : ByteArray), (⟨#[67, 72]⟩ : ByteArray)] : List ByteArray)) (inner := [.string (⟨#[67]⟩ : ByteArray), .string (⟨#[67, 72]⟩ : ByteArray)]) (ok := fun _ => True) (okp := fun _ => True) ?hr ?hp (fun _ hk => hk) trivial (Below.refl _ _) (Nat.le_refl _) (by simp) ?_; (case hd => rfl); (case hg => rfl); (case hr => first | (go_simp; done) | (go_simp; rfl)); (case hp => exact (Reps.one (show Kd.M Kd.string _ _ _ (⟨#[67]⟩ : ByteArray) [.string (⟨#[67]⟩ : ByteArray)] from rfl) (Reps.one (show Kd.M Kd.string _ _ _ (⟨#[67, 72]⟩ : ByteArray) [.string (⟨#[67, 72]⟩ : ByteArray)] from rfl) (Reps.none _ _))))
      intro v3 w4 ho hb _ _
      refine hK.out _ _ ⟨v0, v1, v2, v3, v4, m3, m6, (by rw [ha]; exact putSel_upk 4 hb_ rfl rfl rfl), fun _ => blk_below hB hb, QH.trans (hb.mono hsz), fun h_ => Kd.R_below (R0 h_) hb, fun h_ => Kd.R_below (R1 h_) hb, fun h_ => Kd.R_below (R2 h_) hb, fun _ => Kd.R_lower ho hsz, fun h_ => Kd.R_below (R4 h_) hb, fun h_ => absurd ((hoff 7 (by kernel_rfl)).symm.trans h_) (by decide), fun h_ => X3 h_, fun h_ => absurd ((hoff 6 (by kernel_rfl)).symm.trans h_) (by decide)⟩
    refine steps_cons ?_ ?_
    · rintro b a w' ⟨v0, v1, v2, v3, v4, m3, m6, ha, QB, QH, R0, R1, R2, R3, R4, QF, X3, X6⟩ hb_ hon hoff
      refine ⟨_, rfl, fun K hK => ?_⟩
      have hsz : g ≤ w'.heap.size := by rw [← hg]; exact QH.size
      have hB := QB (hoff 7 (by kernel_rfl))
      refine Kd.R_lit_step Kd.string _ 9 ?hg (N := 6) ?hd (xs := ([(⟨#[]⟩ : ByteArray)] : List ByteArray)) (inner := [.string (⟨#[]⟩ : ByteArray)]) (ok := fun _ => True) (okp := fun _ => True) ?hr ?hp (fun _ hk => hk) trivial (Below.refl _ _) (Nat.le_refl _) (by simp) ?_; (case hd => rfl); (case hg => rfl); (case hr => first | (go_simp; done) | (go_simp; rfl)); (case hp => exact (Reps.one (show Kd.M Kd.string _ _ _ (⟨#[]⟩ : ByteArray) [.string (⟨#[]⟩ : ByteArray)] from rfl) (Reps.none _ _)))
      intro v4 w4 ho hb _ _
      refine hK.out _ _ ⟨v0, v1, v2, v3, v4, m3, m6, (by rw [ha]; exact putSel_upk 5 hb_ rfl rfl rfl), fun _ => blk_below hB hb, QH.trans (hb.mono hsz), fun h_ => Kd.R_below (R0 h_) hb, fun h_ => Kd.R_below (R1 h_) hb, fun h_ => Kd.R_below (R2 h_) hb, fun h_ => Kd.R_below (R3 h_) hb, fun _ => Kd.R_lower ho hsz, fun h_ => absurd ((hoff 7 (by kernel_rfl)).symm.trans h_) (by decide), fun h_ => X3 h_, fun h_ => absurd ((hoff 6 (by kernel_rfl)).symm.trans h_) (by decide)⟩
    refine steps_cons ?_ ?_
    · rintro b a w' ⟨v0, v1, v2, v3, v4, m3, m6, ha, QB, QH, R0, R1, R2, R3, R4, QF, X3, X6⟩ hb_ hon hoff
      refine ⟨_, rfl, fun K hK => ?_⟩
      have hsz : g ≤ w'.heap.size := by rw [← hg]; exact QH.size
      have e4 : a.tmps[4]? = some m3 := by rw [ha]; exact putSel_on (e := (3, 4, m3)) 3 rfl rfl (hon 3 (by kernel_rfl)) rfl
      rw [X3 (hon 3 (by kernel_rfl))] at e4
      have e5 : a.tmps[5]? = some v3 := by rw [ha]; exact putSel_on (e := (4, 5, v3)) 4 rfl rfl (hon 4 (by kernel_rfl)) rfl
      have e6 : a.tmps[6]? = some v4 := by rw [ha]; exact putSel_on (e := (5, 6, v4)) 5 rfl rfl (hon 5 (by kernel_rfl)) rfl
      replace ha := Aside0.mk ha
      obtain ⟨A0, n0, c0, rfl⟩ := R_slice3 (R0 (hon 0 (by kernel_rfl)))
      obtain ⟨A1, n1, c1, rfl⟩ := R_slice3 (R1 (hon 1 (by kernel_rfl)))
      obtain ⟨A2, n2, c2, rfl⟩ := R_slice3 (R2 (hon 2 (by kernel_rfl)))
      obtain ⟨A3, n3, c3, rfl⟩ := R_slice3 (R3 (hon 4 (by kernel_rfl)))
      obtain ⟨A4, n4, c4, rfl⟩ := R_slice3 (R4 (hon 5 (by kernel_rfl)))
      refine value_ (w1 := w') (v := .agg #[.string (⟨#[]⟩ : ByteArray), .int .i64 1, .int .i64 2, .slice A0 n0 c0, .slice A1 n1 c1, .slice A2 n2 c2, .slice A3 n3 c3, .slice A4 n4 c4]) (by rfl) rfl ?_ ?_
      · go_simp
        (try simp only [i64_w])
        try rfl
      exact hK.out _ _ ⟨.slice A0 n0 c0, .slice A1 n1 c1, .slice A2 n2 c2, .slice A3 n3 c3, .slice A4 n4 c4, m3, (.agg #[.string (⟨#[]⟩ : ByteArray), .int .i64 1, .int .i64 2, .slice A0 n0 c0, .slice A1 n1 c1, .slice A2 n2 c2, .slice A3 n3 c3, .slice A4 n4 c4]), (by rw [ha.out]; exact putSel_upk 6 hb_ rfl rfl rfl), QB, QH, R0, R1, R2, R3, R4, fun h_ => absurd ((hoff 7 (by kernel_rfl)).symm.trans h_) (by decide), X3, fun _ => rfl⟩
    refine steps_cons ?_ ?_
    · rintro b a w' ⟨v0, v1, v2, v3, v4, m3, m6, ha, QB, QH, R0, R1, R2, R3, R4, QF, X3, X6⟩ hb_ hon hoff
      refine ⟨_, rfl, fun K hK => ?_⟩
      have hsz : g ≤ w'.heap.size := by rw [← hg]; exact QH.size
      have e0 : a.tmps[0]? = some (.pointer (some ⟨g, 0, none⟩)) := by rw [ha]; exact (putSel_off rfl).trans rfl
      have e7 : a.tmps[7]? = some m6 := by rw [ha]; exact putSel_on (e := (6, 7, m6)) 6 rfl rfl (hon 6 (by kernel_rfl)) rfl
      rw [X6 (hon 6 (by kernel_rfl))] at e7
      replace ha := Aside0.mk ha
      have hB := QB hb_
      obtain ⟨A0, n0, c0, rfl⟩ := R_slice3 (R0 (hon 0 (by kernel_rfl)))
      obtain ⟨A1, n1, c1, rfl⟩ := R_slice3 (R1 (hon 1 (by kernel_rfl)))
      obtain ⟨A2, n2, c2, rfl⟩ := R_slice3 (R2 (hon 2 (by kernel_rfl)))
      obtain ⟨A3, n3, c3, rfl⟩ := R_slice3 (R3 (hon 4 (by kernel_rfl)))
      obtain ⟨A4, n4, c4, rfl⟩ := R_slice3 (R4 (hon 5 (by kernel_rfl)))
      obtain ⟨s0, s1, s2, s3, s4, s5, s6, s7⟩ := cells8 hB
      have f0 := blk_frozen hB 0
      have f1 := blk_frozen hB 1
      have f2 := blk_frozen hB 2
      have f3 := blk_frozen hB 3
      have f4 := blk_frozen hB 4
      have f5 := blk_frozen hB 5
      have f6 := blk_frozen hB 6
      have f7 := blk_frozen hB 7
      obtain ⟨p1, p2, p3⟩ := put8_facts hB (.string (⟨#[]⟩ : ByteArray)) (.int .i64 1) (.int .i64 2) (.slice A0 n0 c0) (.slice A1 n1 c1) (.slice A2 n2 c2) (.slice A3 n3 c3) (.slice A4 n4 c4)
      replace hB := Aside0.mk hB
      refine skip_ (w1 := put8 w' g (.string (⟨#[]⟩ : ByteArray)) (.int .i64 1) (.int .i64 2) (.slice A0 n0 c0) (.slice A1 n1 c1) (.slice A2 n2 c2) (.slice A3 n3 c3) (.slice A4 n4 c4)) (by rfl) rfl ?_ ?_
      · clear p1 p2 p3
        go_simp
        rfl
      exact hK.out _ _ ⟨.slice A0 n0 c0, .slice A1 n1 c1, .slice A2 n2 c2, .slice A3 n3 c3, .slice A4 n4 c4, m3, m6, (by rw [ha.out]; exact putSel_none (v := undef) rfl), fun h0_ => absurd ((up_self b 7).symm.trans h0_) (by decide), p3 _ _ QH (Nat.le_refl _), fun h_ => R_of_heap (R0 h_) hB.out (by decide) p2, fun h_ => R_of_heap (R1 h_) hB.out (by decide) p2, fun h_ => R_of_heap (R2 h_) hB.out (by decide) p2, fun h_ => R_of_heap (R3 h_) hB.out (by decide) p2, fun h_ => R_of_heap (R4 h_) hB.out (by decide) p2, fun _ => p1, X3, X6⟩
    exact steps_nil
  rintro b a w' hall ⟨v0, v1, v2, v3, v4, m3, m6, ha, QB, QH, R0, R1, R2, R3, R4, QF, X3, X6⟩
  have hb0_ := hall 0 (by kernel_rfl)
  have hb1_ := hall 1 (by kernel_rfl)
  have hb2_ := hall 2 (by kernel_rfl)
  have hb3_ := hall 3 (by kernel_rfl)
  have hb4_ := hall 4 (by kernel_rfl)
  have hb5_ := hall 5 (by kernel_rfl)
  have hb6_ := hall 6 (by kernel_rfl)
  have hb7_ := hall 7 (by kernel_rfl)
  subst ha
  have hF := Aside0.mk (QF hb7_)
  have R0' := Aside0.mk (R0 hb0_)
  have R1' := Aside0.mk (R1 hb1_)
  have R2' := Aside0.mk (R2 hb2_)
  have R3' := Aside0.mk (R3 hb4_)
  have R4' := Aside0.mk (R4 hb5_)
  have QH' := Aside0.mk QH
  simp only [putSel, hb0_, hb1_, hb2_, hb3_, hb4_, hb5_, hb6_, if_true, Act.put, List.setIfInBounds_toArray, List.set_cons_zero, List.set_cons_succ]
  clear QB QF R0 R1 R2 R3 R4 X3 X6 QH hall hb0_ hb1_ hb2_ hb3_ hb4_ hb5_ hb6_ hb7_ BK HB
  go_wp2
  subst hg
  refine bodyPost_ret (results_cell_row rfl _ _ w.heap.size 27 #[.string (⟨#[]⟩ : ByteArray), .int .i64 1, .int .i64 2, v0, v1, v2, v3, v4] (0, 0) _ rfl hF.out Tryd.underlying27 rfl (by kernel_rfl)) rfl ?_
  exact ⟨_, _, _, _, _, rfl, R0'.out, R1'.out, R2'.out, R3'.out, R4'.out, QH'.out⟩
end Go.Proofs.YtiipailmldbpbaaDoor.Q
end
