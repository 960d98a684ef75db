/- PART 18 OF A PROOF: Lean functions, and that the program computes them; written by hand and by a program. Not trusted: Lean checks it. -/
import Derived.Test.YtplhkfppjemjmaaDoorBa11
import Derived.Test.YtplhkfppjemjmaaDoorBa17
set_option linter.unusedVariables false
set_option linter.unusedSimpArgs false
section
namespace Go.Proofs.YtplhkfppjemjmaaDoor.Q
open Go.RowKit Go.Proofs.YtplhkfppjemjmaaDoorW.PrintWords Go.Proofs.YtplhkfppjemjmaaDoorW.PrintLast Go.Proofs.YtplhkfppjemjmaaDoorW.PrintMore
set_option linter.unusedVariables false
set_option linter.unusedSimpArgs false
open Go.Proofs.YtplhkfppjemjmaaDoorS
def kRow : List Bool := List.replicate 2 false
def kCells : List ByteArray := [⟨#[67]⟩, ⟨#[67, 72]⟩]
def kClues : List ByteArray := [⟨#[]⟩]
def kPuz : Puz := ⟨⟨#[]⟩, 1, 2, kRow, kRow, kRow, kCells, kClues⟩
def kS0 : Sht := (List.replicate 2 ⟨#[]⟩, List.replicate 2 false, 0, false)
def kS1 : Sht := ([⟨#[67]⟩, ⟨#[]⟩], [true, false], 1, false)
def kAct1 : Act3 := ⟨1, 0, ⟨#[99]⟩⟩
theorem kstart : sstart ⟨#[]⟩ 1 2 kRow kRow kRow kCells kClues = (kS0.1, kS0.2.1, kS0.2.2.1, kS0.2.2.2, 0) := by decide +kernel
theorem kdo0 : doOf ⟨#[]⟩ 1 2 kRow kRow kRow kCells kClues (List.replicate 2 ⟨#[]⟩) (List.replicate 2 false) 0 false 1 0 ⟨#[99]⟩ = ([⟨#[67]⟩, ⟨#[]⟩], [true, false], 1, false, 0) := by decide +kernel
theorem kdo : doP kPuz kS0 kAct1 = (kS1, 0) := by unfold doP kPuz kS0 kS1 kAct1; dsimp only; rw [kdo0]
theorem ksmall {l : List ByteArray} (h : l.all (fun s => decide (s.size ≤ 1048576)) = true) : Small l := fun s hs => of_decide_eq_true (List.all_eq_true.1 h s hs)
theorem kz : PuzS ⟨#[]⟩ kCells kClues := ⟨by decide, ksmall (by decide +kernel), ksmall (by decide +kernel), by decide, by decide⟩
theorem kok {sh : List Sht} {log on : List Act3} (h1 : 0 < sh.length) (hl : sh.length ≤ 1000000) (hl2 : log.length ≤ 1000000) (hl3 : on.length ≤ 1000000) (hs : ∀ s ∈ sh, s = kS0 ∨ s = kS1) (ha : ∀ a ∈ on, a = kAct1) : SesOk kPuz ⟨sh, log, on⟩ :=
  ⟨kz, h1, hl, hl2, hl3, fun s h => by
    rcases hs s h with rfl | rfl
    · exact ⟨ksmall (by decide +kernel), by decide, by decide⟩
    · exact ⟨ksmall (by decide +kernel), by decide, by decide⟩, fun a h => by
    obtain rfl := ha a h
    decide⟩
theorem kok2 : SesOk kPuz ⟨[kS0, kS1], [kAct1], []⟩ := kok (by decide) (by decide) (by decide) (by decide) (by intro s hs; rcases List.mem_cons.1 hs with rfl | hs; exact .inl rfl; exact .inr (List.mem_singleton.1 hs)) (by intro a ha; cases ha)
theorem kdo1 : sDo kPuz ⟨[kS0], [], []⟩ kAct1 = (⟨[kS0, kS1], [kAct1], []⟩, 0) := sDo_ok (by decide) kdo
theorem kundo : sUndo ⟨[kS0, kS1], [kAct1], []⟩ = (⟨[kS0], [], [kAct1]⟩, 0) := rfl
theorem kredo : sRedo kPuz ⟨[kS0], [], [kAct1]⟩ = (⟨[kS0, kS1], [kAct1], []⟩, 0) := by
  show sAct kPuz ⟨[kS0], [], []⟩ kAct1 = _
  unfold sAct
  rw [show topOf (SS.sh ⟨[kS0], [], []⟩) = kS0 from rfl, kdo]
  rfl
theorem SesT.of {own : Nat → Prop} {w : World} {base g : Nat} {P : Puz} {S : SS} (h : Ses own w base g P S) : SesT (fun k => own k ∧ k < w.heap.size) w base g P S := by
  obtain ⟨_, _, _, _, _, _, _, _, hs⟩ := h
  exact ⟨⟨_, _, _, _, _, _, _, _, hs.trim⟩, fun k hk => hk.2⟩
theorem below_low {w w1 w2 w3 : World} (h : Below w1.heap.size w2 w3) (k : Below w.heap.size w w1) : Below w.heap.size w2 w3 := h.mono k.size
theorem run_field0 (w : World) (b c d : Value) (A : Option Addr) (n m : Nat) : (Instr.field 38 (.agg #[.slice A n m, b, c, d]) 0).run Tryd.prog w = .ok (.slice A n m) w := by kernel_rfl
def awake24.T1 : Bool × List (List Nat × List Nat) := (true, [([], []), ([], []), ([], []), ([0, 1, 2], [0, 1, 2]), ([], []), ([], []), ([3, 4, 5], [3, 4, 5]), ([], []), ([7, 6, 0, 1, 2, 3, 4, 5, 6, 7], [6, 7])])
def awake24.B1 : List Nat := [0, 0, 0, 7, 0, 0, 63, 0, 255]
theorem awake24.tab1 : rtab .any (opsOf Tryd.f4 1) = awake24.T1 := by kernel_rfl
theorem awake24.bits1 : waitsOk awake24.T1.2 awake24.B1 = true := by kernel_rfl
set_option maxHeartbeats 8000000 in
set_option maxRecDepth 1000000 in
theorem rebuslaw24_awake.calls {w : World} (hT : Tabs w) :
    Calls Tryd.prog 4 #[] w fun e w' => e = .returned (.bool true) ∧ Below w.heap.size w w' := by
  have hu27 := Tryd.underlying27
  have hu24 := Tryd.underlying24
  have hu36 := Tryd.underlying36
  have hu38 := Tryd.underlying38
  go_enter Tryd.func4, Tryd.ntmps4
  go_wp2
  have HB := below_drew (Below.refl w.heap.size w)
  obtain ⟨g, hg⟩ : ∃ g, w.heap.size = g := ⟨_, rfl⟩
  refine start_ (n := 9) (S := fun w' => True) (ds := []) #[false, false, false, false, false, false, false, false, false] (by kernel_rfl) rfl rfl trivial (fun hHeld => ?_)
  refine with_tabW awake24.tab1 awake24.bits1 (fun HT_ HW_ => ?_)
  generalize w.drew = w3 at HB hHeld ⊢
  rw [hg] at HB
  refine inv_at [0, 1, 2, 3, 4, 5, 6, 7, 8] (fun a0_ b a w' => ∃ v0 v1 v2 v3 v4 m3 m6 : Value, ∃ gp : Nat, a = putSel a0_ b [(0, 4, v0), (1, 5, v1), (2, 6, v2), (3, 7, m3), (4, 8, v3), (5, 9, v4), (6, 10, m6), (7, 1, .pointer (some ⟨gp, 0, none⟩))] ∧ (b 7 = true → b 8 = false → g ≤ gp ∧ w'.heap[gp]? = some (.cells #[.string (⟨#[]⟩ : ByteArray), .int .i64 0, .int .i64 0, .slice none 0 0, .slice none 0 0, .slice none 0 0, .slice none 0 0, .slice none 0 0] 27 (0, 0))) ∧ Below g w w' ∧ (b 0 = true → Kd.R Kd.bool 4 w' g (fun _ => True) v0 kRow) ∧ (b 1 = true → Kd.R Kd.bool 4 w' g (fun _ => True) v1 kRow) ∧ (b 2 = true → Kd.R Kd.bool 4 w' g (fun _ => True) v2 kRow) ∧ (b 4 = true → Kd.R Kd.string 9 w' g (fun _ => True) v3 kCells) ∧ (b 5 = true → Kd.R Kd.string 9 w' g (fun _ => True) v4 kClues) ∧ (b 8 = true → g ≤ gp ∧ w'.heap[gp]? = some (.cells #[.string (⟨#[]⟩ : ByteArray), .int .i64 1, .int .i64 2, v0, v1, v2, v3, v4] 27 (0, 0))) ∧ (b 3 = true → m3 = .agg #[.int .i64 1, .int .i64 2, v0, v1, v2]) ∧ (b 6 = true → m6 = .agg #[.string (⟨#[]⟩ : ByteArray), .int .i64 1, .int .i64 2, v0, v1, v2, v3, v4])) HT_.out HW_.out (by kernel_rfl) (by kernel_rfl) ?_ ?_ ?_
  · exact ⟨.bool false, .bool false, .bool false, .bool false, .bool false, .bool false, .bool false, 0, by simp only [putSel, Bool.false_eq_true, if_false], fun h_ => absurd h_ (by decide), HB, fun h_ => absurd h_ (by decide), fun h_ => absurd h_ (by decide), fun h_ => absurd h_ (by decide), fun h_ => absurd h_ (by decide), fun h_ => absurd h_ (by decide), fun h_ => absurd h_ (by decide), fun h_ => absurd h_ (by decide), fun h_ => absurd h_ (by decide)⟩
  · clear HB
    refine steps_cons ?_ ?_
    · rintro b a w' ⟨v0, v1, v2, v3, v4, m3, m6, gp, ha, QB, QH, R0, R1, R2, R3, R4, QF, X3, X6⟩ hb_ hon hoff
      refine ⟨_, rfl, fun K hK => ?_⟩
      have hsz : g ≤ w'.heap.size := by rw [← hg]; exact QH.size
      refine Kd.R_make_step Kd.bool _ 4 (by rfl) (N := 4) rfl 22 _ _ rfl 2 rfl rfl Tryd.underlying22 (.bool false) 1 bool_info rfl (by decide) (by decide) false (ok := fun _ => True) (okp := fun _ => True) rfl (fun _ hk => hk) trivial (by decide) (by decide) (Below.refl _ _) (Nat.le_refl _) ?_
      intro v0 w4 ho hb _ _
      refine hK.out _ _ ⟨v0, v1, v2, v3, v4, m3, m6, gp, (by rw [ha]; exact putSel_upk 0 hb_ rfl rfl rfl), fun h7 h8 => ⟨(QB h7 (hoff 8 (by kernel_rfl))).1, blk_below (QB h7 (hoff 8 (by kernel_rfl))).2 hb⟩, QH.trans (hb.mono hsz), fun _ => Kd.R_lower ho hsz, fun h_ => Kd.R_below (R1 h_) hb, fun h_ => Kd.R_below (R2 h_) hb, fun h_ => Kd.R_below (R3 h_) hb, fun h_ => Kd.R_below (R4 h_) hb, fun h_ => absurd ((hoff 8 (by kernel_rfl)).symm.trans h_) (by decide), fun h_ => absurd ((hoff 3 (by kernel_rfl)).symm.trans h_) (by decide), fun h_ => absurd ((hoff 6 (by kernel_rfl)).symm.trans h_) (by decide)⟩
    refine steps_cons ?_ ?_
    · rintro b a w' ⟨v0, v1, v2, v3, v4, m3, m6, gp, ha, QB, QH, R0, R1, R2, R3, R4, QF, X3, X6⟩ hb_ hon hoff
      refine ⟨_, rfl, fun K hK => ?_⟩
      have hsz : g ≤ w'.heap.size := by rw [← hg]; exact QH.size
      refine Kd.R_make_step Kd.bool _ 4 (by rfl) (N := 5) rfl 22 _ _ rfl 2 rfl rfl Tryd.underlying22 (.bool false) 1 bool_info rfl (by decide) (by decide) false (ok := fun _ => True) (okp := fun _ => True) rfl (fun _ hk => hk) trivial (by decide) (by decide) (Below.refl _ _) (Nat.le_refl _) ?_
      intro v1 w4 ho hb _ _
      refine hK.out _ _ ⟨v0, v1, v2, v3, v4, m3, m6, gp, (by rw [ha]; exact putSel_upk 1 hb_ rfl rfl rfl), fun h7 h8 => ⟨(QB h7 (hoff 8 (by kernel_rfl))).1, blk_below (QB h7 (hoff 8 (by kernel_rfl))).2 hb⟩, QH.trans (hb.mono hsz), fun h_ => Kd.R_below (R0 h_) hb, fun _ => Kd.R_lower ho hsz, fun h_ => Kd.R_below (R2 h_) hb, fun h_ => Kd.R_below (R3 h_) hb, fun h_ => Kd.R_below (R4 h_) hb, fun h_ => absurd ((hoff 8 (by kernel_rfl)).symm.trans h_) (by decide), fun h_ => absurd ((hoff 3 (by kernel_rfl)).symm.trans h_) (by decide), fun h_ => absurd ((hoff 6 (by kernel_rfl)).symm.trans h_) (by decide)⟩
    refine steps_cons ?_ ?_
    · rintro b a w' ⟨v0, v1, v2, v3, v4, m3, m6, gp, ha, QB, QH, R0, R1, R2, R3, R4, QF, X3, X6⟩ hb_ hon hoff
      refine ⟨_, rfl, fun K hK => ?_⟩
      have hsz : g ≤ w'.heap.size := by rw [← hg]; exact QH.size
      refine Kd.R_make_step Kd.bool _ 4 (by rfl) (N := 6) rfl 22 _ _ rfl 2 rfl rfl Tryd.underlying22 (.bool false) 1 bool_info rfl (by decide) (by decide) false (ok := fun _ => True) (okp := fun _ => True) rfl (fun _ hk => hk) trivial (by decide) (by decide) (Below.refl _ _) (Nat.le_refl _) ?_
      intro v2 w4 ho hb _ _
      refine hK.out _ _ ⟨v0, v1, v2, v3, v4, m3, m6, gp, (by rw [ha]; exact putSel_upk 2 hb_ rfl rfl rfl), fun h7 h8 => ⟨(QB h7 (hoff 8 (by kernel_rfl))).1, blk_below (QB h7 (hoff 8 (by kernel_rfl))).2 hb⟩, QH.trans (hb.mono hsz), fun h_ => Kd.R_below (R0 h_) hb, fun h_ => Kd.R_below (R1 h_) hb, fun _ => Kd.R_lower ho hsz, fun h_ => Kd.R_below (R3 h_) hb, fun h_ => Kd.R_below (R4 h_) hb, fun h_ => absurd ((hoff 8 (by kernel_rfl)).symm.trans h_) (by decide), fun h_ => absurd ((hoff 3 (by kernel_rfl)).symm.trans h_) (by decide), fun h_ => absurd ((hoff 6 (by kernel_rfl)).symm.trans h_) (by decide)⟩
    refine steps_cons ?_ ?_
    · rintro b a w' ⟨v0, v1, v2, v3, v4, m3, m6, gp, ha, QB, QH, R0, R1, R2, R3, R4, QF, X3, X6⟩ hb_ hon hoff
      refine ⟨_, rfl, fun K hK => ?_⟩
      have hsz : g ≤ w'.heap.size := by rw [← hg]; exact QH.size
      have e0 : a.tmps[4]? = some v0 := by rw [ha]; exact putSel_on (e := (0, 4, v0)) 0 rfl rfl (hon 0 (by kernel_rfl)) rfl
      have e1 : a.tmps[5]? = some v1 := by rw [ha]; exact putSel_on (e := (1, 5, v1)) 1 rfl rfl (hon 1 (by kernel_rfl)) rfl
      have e2 : a.tmps[6]? = some v2 := by rw [ha]; exact putSel_on (e := (2, 6, v2)) 2 rfl rfl (hon 2 (by kernel_rfl)) rfl
      replace ha := Aside0.mk ha
      obtain ⟨A0, n0, c0, rfl⟩ := R_slice3 (R0 (hon 0 (by kernel_rfl)))
      obtain ⟨A1, n1, c1, rfl⟩ := R_slice3 (R1 (hon 1 (by kernel_rfl)))
      obtain ⟨A2, n2, c2, rfl⟩ := R_slice3 (R2 (hon 2 (by kernel_rfl)))
      refine value_ (w1 := w') (v := .agg #[.int .i64 1, .int .i64 2, .slice A0 n0 c0, .slice A1 n1 c1, .slice A2 n2 c2]) (by rfl) rfl ?_ ?_
      · go_simp
        (try simp only [i64_w])
        try rfl
      exact hK.out _ _ ⟨.slice A0 n0 c0, .slice A1 n1 c1, .slice A2 n2 c2, v3, v4, (.agg #[.int .i64 1, .int .i64 2, .slice A0 n0 c0, .slice A1 n1 c1, .slice A2 n2 c2]), m6, gp, (by rw [ha.out]; exact putSel_upk 3 hb_ rfl rfl rfl), fun h7 h8 => QB h7 (hoff 8 (by kernel_rfl)), QH, R0, R1, R2, R3, R4, fun h_ => absurd ((hoff 8 (by kernel_rfl)).symm.trans h_) (by decide), fun _ => rfl, fun h_ => absurd ((hoff 6 (by kernel_rfl)).symm.trans h_) (by decide)⟩
    refine steps_cons ?_ ?_
    · rintro b a w' ⟨v0, v1, v2, v3, v4, m3, m6, gp, ha, QB, QH, R0, R1, R2, R3, R4, QF, X3, X6⟩ hb_ hon hoff
      refine ⟨_, rfl, fun K hK => ?_⟩
      have hsz : g ≤ w'.heap.size := by rw [← hg]; exact QH.size
      refine Kd.R_lit_step Kd.string _ 9 ?hg (N := 8) ?hd (xs := ([(⟨#[67]⟩ : ByteArray), (⟨#[67, 72]⟩ : ByteArray)] : List ByteArray)) (inner := [.string (⟨#[67]⟩ : ByteArray), .string (⟨#[67, 72]⟩ : ByteArray)]) (ok := fun _ => True) (okp := fun _ => True) ?hr ?hp (fun _ hk => hk) trivial (Below.refl _ _) (Nat.le_refl _) (by simp) ?_; (case hd => rfl); (case hg => rfl); (case hr => first | (go_simp; done) | (go_simp; rfl)); (case hp => exact (Reps.one (show Kd.M Kd.string _ _ _ (⟨#[67]⟩ : ByteArray) [.string (⟨#[67]⟩ : ByteArray)] from rfl) (Reps.one (show Kd.M Kd.string _ _ _ (⟨#[67, 72]⟩ : ByteArray) [.string (⟨#[67, 72]⟩ : ByteArray)] from rfl) (Reps.none _ _))))
      intro v3 w4 ho hb _ _
      refine hK.out _ _ ⟨v0, v1, v2, v3, v4, m3, m6, gp, (by rw [ha]; exact putSel_upk 4 hb_ rfl rfl rfl), fun h7 h8 => ⟨(QB h7 (hoff 8 (by kernel_rfl))).1, blk_below (QB h7 (hoff 8 (by kernel_rfl))).2 hb⟩, QH.trans (hb.mono hsz), fun h_ => Kd.R_below (R0 h_) hb, fun h_ => Kd.R_below (R1 h_) hb, fun h_ => Kd.R_below (R2 h_) hb, fun _ => Kd.R_lower ho hsz, fun h_ => Kd.R_below (R4 h_) hb, fun h_ => absurd ((hoff 8 (by kernel_rfl)).symm.trans h_) (by decide), fun h_ => X3 h_, fun h_ => absurd ((hoff 6 (by kernel_rfl)).symm.trans h_) (by decide)⟩
    refine steps_cons ?_ ?_
    · rintro b a w' ⟨v0, v1, v2, v3, v4, m3, m6, gp, ha, QB, QH, R0, R1, R2, R3, R4, QF, X3, X6⟩ hb_ hon hoff
      refine ⟨_, rfl, fun K hK => ?_⟩
      have hsz : g ≤ w'.heap.size := by rw [← hg]; exact QH.size
      refine Kd.R_lit_step Kd.string _ 9 ?hg (N := 9) ?hd (xs := ([(⟨#[]⟩ : ByteArray)] : List ByteArray)) (inner := [.string (⟨#[]⟩ : ByteArray)]) (ok := fun _ => True) (okp := fun _ => True) ?hr ?hp (fun _ hk => hk) trivial (Below.refl _ _) (Nat.le_refl _) (by simp) ?_; (case hd => rfl); (case hg => rfl); (case hr => first | (go_simp; done) | (go_simp; rfl)); (case hp => exact (Reps.one (show Kd.M Kd.string _ _ _ (⟨#[]⟩ : ByteArray) [.string (⟨#[]⟩ : ByteArray)] from rfl) (Reps.none _ _)))
      intro v4 w4 ho hb _ _
      refine hK.out _ _ ⟨v0, v1, v2, v3, v4, m3, m6, gp, (by rw [ha]; exact putSel_upk 5 hb_ rfl rfl rfl), fun h7 h8 => ⟨(QB h7 (hoff 8 (by kernel_rfl))).1, blk_below (QB h7 (hoff 8 (by kernel_rfl))).2 hb⟩, QH.trans (hb.mono hsz), fun h_ => Kd.R_below (R0 h_) hb, fun h_ => Kd.R_below (R1 h_) hb, fun h_ => Kd.R_below (R2 h_) hb, fun h_ => Kd.R_below (R3 h_) hb, fun _ => Kd.R_lower ho hsz, fun h_ => absurd ((hoff 8 (by kernel_rfl)).symm.trans h_) (by decide), fun h_ => X3 h_, fun h_ => absurd ((hoff 6 (by kernel_rfl)).symm.trans h_) (by decide)⟩
    refine steps_cons ?_ ?_
    · rintro b a w' ⟨v0, v1, v2, v3, v4, m3, m6, gp, ha, QB, QH, R0, R1, R2, R3, R4, QF, X3, X6⟩ hb_ hon hoff
      refine ⟨_, rfl, fun K hK => ?_⟩
      have hsz : g ≤ w'.heap.size := by rw [← hg]; exact QH.size
      have e7 : a.tmps[7]? = some m3 := by rw [ha]; exact putSel_on (e := (3, 7, m3)) 3 rfl rfl (hon 3 (by kernel_rfl)) rfl
      rw [X3 (hon 3 (by kernel_rfl))] at e7
      have e8 : a.tmps[8]? = some v3 := by rw [ha]; exact putSel_on (e := (4, 8, v3)) 4 rfl rfl (hon 4 (by kernel_rfl)) rfl
      have e9 : a.tmps[9]? = some v4 := by rw [ha]; exact putSel_on (e := (5, 9, v4)) 5 rfl rfl (hon 5 (by kernel_rfl)) rfl
      replace ha := Aside0.mk ha
      obtain ⟨A0, n0, c0, rfl⟩ := R_slice3 (R0 (hon 0 (by kernel_rfl)))
      obtain ⟨A1, n1, c1, rfl⟩ := R_slice3 (R1 (hon 1 (by kernel_rfl)))
      obtain ⟨A2, n2, c2, rfl⟩ := R_slice3 (R2 (hon 2 (by kernel_rfl)))
      obtain ⟨A3, n3, c3, rfl⟩ := R_slice3 (R3 (hon 4 (by kernel_rfl)))
      obtain ⟨A4, n4, c4, rfl⟩ := R_slice3 (R4 (hon 5 (by kernel_rfl)))
      refine value_ (w1 := w') (v := .agg #[.string (⟨#[]⟩ : ByteArray), .int .i64 1, .int .i64 2, .slice A0 n0 c0, .slice A1 n1 c1, .slice A2 n2 c2, .slice A3 n3 c3, .slice A4 n4 c4]) (by rfl) rfl ?_ ?_
      · go_simp
        (try simp only [i64_w])
        try rfl
      exact hK.out _ _ ⟨.slice A0 n0 c0, .slice A1 n1 c1, .slice A2 n2 c2, .slice A3 n3 c3, .slice A4 n4 c4, m3, (.agg #[.string (⟨#[]⟩ : ByteArray), .int .i64 1, .int .i64 2, .slice A0 n0 c0, .slice A1 n1 c1, .slice A2 n2 c2, .slice A3 n3 c3, .slice A4 n4 c4]), gp, (by rw [ha.out]; exact putSel_upk 6 hb_ rfl rfl rfl), fun h7 h8 => QB h7 (hoff 8 (by kernel_rfl)), QH, R0, R1, R2, R3, R4, fun h_ => absurd ((hoff 8 (by kernel_rfl)).symm.trans h_) (by decide), X3, fun _ => rfl⟩
    refine steps_cons ?_ ?_
    · rintro b a w' ⟨v0, v1, v2, v3, v4, m3, m6, gp, ha, QB, QH, R0, R1, R2, R3, R4, QF, X3, X6⟩ hb_ hon hoff
      refine ⟨_, rfl, fun K hK => ?_⟩
      have hsz : g ≤ w'.heap.size := by rw [← hg]; exact QH.size
      have hb := below_alloc (Below.refl w'.heap.size w') (.cells #[.string (⟨#[]⟩ : ByteArray), .int .i64 0, .int .i64 0, .slice none 0 0, .slice none 0 0, .slice none 0 0, .slice none 0 0, .slice none 0 0] 27)
      refine value_ (w1 := w'.alloc (.cells #[.string (⟨#[]⟩ : ByteArray), .int .i64 0, .int .i64 0, .slice none 0 0, .slice none 0 0, .slice none 0 0, .slice none 0 0, .slice none 0 0] 27)) (v := .pointer (some ⟨w'.heap.size, 0, none⟩)) (by rfl) rfl (by first | (go_simp; done) | (go_simp; rfl)) ?_
      have hn := blk_new w' (.cells #[.string (⟨#[]⟩ : ByteArray), .int .i64 0, .int .i64 0, .slice none 0 0, .slice none 0 0, .slice none 0 0, .slice none 0 0, .slice none 0 0] 27)
      exact hK.out _ _ ⟨v0, v1, v2, v3, v4, m3, m6, w'.heap.size, (by rw [ha]; exact putSel_upk 7 hb_ rfl rfl rfl), fun _ _ => ⟨hsz, hn⟩, QH.trans (hb.mono hsz), fun h_ => Kd.R_below (R0 h_) hb, fun h_ => Kd.R_below (R1 h_) hb, fun h_ => Kd.R_below (R2 h_) hb, fun h_ => Kd.R_below (R3 h_) hb, fun h_ => Kd.R_below (R4 h_) hb, fun h_ => absurd ((hoff 8 (by kernel_rfl)).symm.trans h_) (by decide), fun h_ => X3 h_, fun h_ => X6 h_⟩
    refine steps_cons ?_ ?_
    · rintro b a w' ⟨v0, v1, v2, v3, v4, m3, m6, gp, ha, QB, QH, R0, R1, R2, R3, R4, QF, X3, X6⟩ hb_ hon hoff
      refine ⟨_, rfl, fun K hK => ?_⟩
      have hsz : g ≤ w'.heap.size := by rw [← hg]; exact QH.size
      have e1 : a.tmps[1]? = some (.pointer (some ⟨gp, 0, none⟩)) := by rw [ha]; exact putSel_on (e := (7, 1, .pointer (some ⟨gp, 0, none⟩))) 7 rfl rfl (hon 7 (by kernel_rfl)) rfl
      have e10 : a.tmps[10]? = some m6 := by rw [ha]; exact putSel_on (e := (6, 10, m6)) 6 rfl rfl (hon 6 (by kernel_rfl)) rfl
      rw [X6 (hon 6 (by kernel_rfl))] at e10
      replace ha := Aside0.mk ha
      obtain ⟨hge, hB⟩ := QB (hon 7 (by kernel_rfl)) hb_
      obtain ⟨A0, n0, c0, rfl⟩ := R_slice3 (R0 (hon 0 (by kernel_rfl)))
      obtain ⟨A1, n1, c1, rfl⟩ := R_slice3 (R1 (hon 1 (by kernel_rfl)))
      obtain ⟨A2, n2, c2, rfl⟩ := R_slice3 (R2 (hon 2 (by kernel_rfl)))
      obtain ⟨A3, n3, c3, rfl⟩ := R_slice3 (R3 (hon 4 (by kernel_rfl)))
      obtain ⟨A4, n4, c4, rfl⟩ := R_slice3 (R4 (hon 5 (by kernel_rfl)))
      obtain ⟨s0, s1, s2, s3, s4, s5, s6, s7⟩ := cells8 hB
      have f0 := blk_frozen hB 0
      have f1 := blk_frozen hB 1
      have f2 := blk_frozen hB 2
      have f3 := blk_frozen hB 3
      have f4 := blk_frozen hB 4
      have f5 := blk_frozen hB 5
      have f6 := blk_frozen hB 6
      have f7 := blk_frozen hB 7
      obtain ⟨p1, p2, p3⟩ := put8_facts hB (.string (⟨#[]⟩ : ByteArray)) (.int .i64 1) (.int .i64 2) (.slice A0 n0 c0) (.slice A1 n1 c1) (.slice A2 n2 c2) (.slice A3 n3 c3) (.slice A4 n4 c4)
      replace hB := Aside0.mk hB
      refine skip_ (w1 := put8 w' gp (.string (⟨#[]⟩ : ByteArray)) (.int .i64 1) (.int .i64 2) (.slice A0 n0 c0) (.slice A1 n1 c1) (.slice A2 n2 c2) (.slice A3 n3 c3) (.slice A4 n4 c4)) (by rfl) rfl ?_ ?_
      · clear p1 p2 p3
        go_simp
        rfl
      exact hK.out _ _ ⟨.slice A0 n0 c0, .slice A1 n1 c1, .slice A2 n2 c2, .slice A3 n3 c3, .slice A4 n4 c4, m3, m6, gp, (by rw [ha.out]; exact putSel_none (v := undef) rfl), fun _ h0_ => absurd ((up_self b 8).symm.trans h0_) (by decide), p3 _ _ QH hge, fun h_ => R_of_heap (R0 h_) hB.out (by decide) p2, fun h_ => R_of_heap (R1 h_) hB.out (by decide) p2, fun h_ => R_of_heap (R2 h_) hB.out (by decide) p2, fun h_ => R_of_heap (R3 h_) hB.out (by decide) p2, fun h_ => R_of_heap (R4 h_) hB.out (by decide) p2, fun _ => ⟨hge, p1⟩, X3, X6⟩
    exact steps_nil
  rintro b a w' hall ⟨v0, v1, v2, v3, v4, m3, m6, gp, ha, QB, QH, R0, R1, R2, R3, R4, QF, X3, X6⟩
  have hb0_ := hall 0 (by kernel_rfl)
  have hb1_ := hall 1 (by kernel_rfl)
  have hb2_ := hall 2 (by kernel_rfl)
  have hb3_ := hall 3 (by kernel_rfl)
  have hb4_ := hall 4 (by kernel_rfl)
  have hb5_ := hall 5 (by kernel_rfl)
  have hb6_ := hall 6 (by kernel_rfl)
  have hb7_ := hall 7 (by kernel_rfl)
  have hb8_ := hall 8 (by kernel_rfl)
  subst ha
  obtain ⟨hge, hF⟩ := QF hb8_
  replace hF := Lib.hid hF
  replace hge := Lib.hid hge
  have R0' := Lib.hid (R0 hb0_)
  have R1' := Lib.hid (R1 hb1_)
  have R2' := Lib.hid (R2 hb2_)
  have R3' := Lib.hid (R3 hb4_)
  have R4' := Lib.hid (R4 hb5_)
  have QH' := Lib.hid QH
  simp only [putSel, hb0_, hb1_, hb2_, hb3_, hb4_, hb5_, hb6_, hb7_, if_true, Act.put, List.setIfInBounds_toArray, List.set_cons_zero, List.set_cons_succ]
  clear QB QF R0 R1 R2 R3 R4 X3 X6 QH hall hb0_ hb1_ hb2_ hb3_ hb4_ hb5_ hb6_ hb7_ hb8_ HB
  subst hg
  obtain ⟨A0, c0, rfl, k0, C0⟩ := Kd.R_reads R0'.out
  obtain ⟨A1, c1, rfl, k1, C1⟩ := Kd.R_reads R1'.out
  obtain ⟨A2, c2, rfl, k2, C2⟩ := Kd.R_reads R2'.out
  obtain ⟨A3, c3, rfl, k3, C3⟩ := Kd.R_reads R3'.out
  obtain ⟨A4, c4, rfl, k4, C4⟩ := Kd.R_reads R4'.out
  have hP := Lib.hid (PuzR.mk C0 k0 C1 k1 C2 k2 C3 k3 C4 k4)
  clear R0' R1' R2' R3' R4' C0 C1 C2 C3 C4 k0 k1 k2 k3 k4
  have x8 := cells8 hF.out
  have hT1 := Lib.hid (tabs_below hT QH'.out)
  have hst := kstart
  have hnew := Lib.hid (new_calls (H := 1) (W := 2) hT1.out hP.out kz (by decide) (by decide) (by decide))
  rw [kstart] at hnew
  have tok1 : True := trivial
  have tok2 : True := trivial
  have tok3 : True := trivial
  have tok4 : True := trivial
  clear hst x8
  have x8 := cells8 hF.out
  go_wp2_with (first
    | (go_at_call 5; go_must (refine hnew.out.mono ?_; rintro e w2 hN; rcases hN with ⟨h, _⟩ | ⟨_, g2, rfl, hS, hb⟩; (exact absurd rfl h); have hS2 := Lib.hid (show SesT (fun k => w'.heap.size ≤ k ∧ k < w2.heap.size) w2 w'.heap.size g2 kPuz ⟨[kS0], [], []⟩ from SesT.of hS); have hB2 := Lib.hid (below_step QH'.out hb); clear hS hb))
    | (go_at_call 7; go_must (refine (wdo (a := kAct1) (tabs_below hT hB2.out) hS2.out (kok (by decide) (by decide) (by decide) (by decide) (by intro s hs; exact .inl (List.mem_singleton.1 hs)) (by intro a ha; cases ha)) (by decide)).mono ?_; rw [kdo1]; rintro e w3 ⟨rfl, hS, hk, hb⟩; have hS3 := Lib.hid hS; have hB3 := Lib.hid (hB2.out.trans (below_low hb QH'.out)); clear hS hk hb))
    | (go_at_call 9; go_must (refine (wlog hS3.out kok2).mono ?_; rintro e w4 ⟨u, rfl, hr, hb, hS⟩; obtain ⟨Dl, kl, rfl⟩ := Kd.R_slice hr; rw [show (SS.log ⟨[kS0, kS1], [kAct1], []⟩).length = 1 from rfl]; have hS4 := Lib.hid hS; have hB4 := Lib.hid (below_step hB3.out hb); clear hS hb hr))
    | (go_at_call 6; have tq := tok1; go_must (clear tq tok1; refine (wsheet hS4.out kok2).mono ?_; rw [show topOf (SS.sh ⟨[kS0, kS1], [kAct1], []⟩) = kS1 from rfl]; rintro e w5 ⟨u0, u1, rfl, h0, h1, hb, hS⟩; obtain ⟨D0, k0, rfl⟩ := Kd.R_slice h0; obtain ⟨D1, k1, rfl⟩ := Kd.R_slice h1; rw [show kS1.1.length = 2 from rfl]; have hS5 := Lib.hid hS; have hB5 := Lib.hid (below_step hB4.out hb); clear hS hb h0 h1))
    )
  rw [run_field0]
  simp only [Result.andThen]
  rw [Oper.upon_value]
  go_wp2_with (first
    | (go_at_call 6; have tq := tok2; go_must (clear tq tok2; refine (wsheet hS5.out kok2).mono ?_; rw [show topOf (SS.sh ⟨[kS0, kS1], [kAct1], []⟩) = kS1 from rfl]; rintro e w6 ⟨u0, u1, rfl, h0, h1, hb, hS⟩; obtain ⟨D2, k2, rfl⟩ := Kd.R_slice h0; obtain ⟨D3, k3, rfl⟩ := Kd.R_slice h1; obtain ⟨ad2, eA2, z2⟩ := Kd.at_string (Kd.R_reads' h0).2.2 0 (by decide) (by decide); cases eA2; rw [show ad2.add (Int.toNat 0) = ad2 from rfl] at z2; rw [show rdOf ByteArray.empty kS1.1 0 = ⟨#[67]⟩ from rfl] at z2; rw [show kS1.1.length = 2 from rfl]; have hS6 := Lib.hid hS; have hB6 := Lib.hid (below_step hB5.out hb); clear hS hb h0 h1))
    )
  rw [run_field0]
  simp only [Result.andThen]
  rw [Oper.upon_value]
  go_wp2_with (first
    | (go_at_call 11; go_must (refine (wundo hS6.out kok2).mono ?_; rw [kundo]; rintro e w7 ⟨rfl, hS, hk, hb⟩; have hS7 := Lib.hid hS; have hB7 := Lib.hid (hB6.out.trans (below_low hb QH'.out)); clear hS hk hb))
    | (go_at_call 12; have tq := tok3; go_must (clear tq tok3; refine (won hS7.out).mono ?_; rintro e w8 ⟨rfl, hb, hS⟩; rw [show (SS.on ⟨[kS0], [], [kAct1]⟩).length = 1 from rfl]; have hS8 := Lib.hid hS; have hB8 := Lib.hid (below_step hB7.out hb); clear hS hb))
    | (go_at_call 13; go_must (refine (wredo (fun w2 h => tabs_below hT (hB8.out.trans (below_low h QH'.out))) hS8.out (kok (by decide) (by decide) (by decide) (by decide) (by intro s hs; exact .inl (List.mem_singleton.1 hs)) (by intro a ha; exact List.mem_singleton.1 ha))).mono ?_; rw [kredo]; rintro e w9 ⟨rfl, hS, hk, hb⟩; have hS9 := Lib.hid hS; have hB9 := Lib.hid (hB8.out.trans (below_low hb QH'.out)); clear hS hk hb))
    | (go_at_call 12; have tq := tok4; go_must (clear tq tok4; refine (won hS9.out).mono ?_; rintro e w10 ⟨rfl, hb, hS⟩; rw [show (SS.on ⟨[kS0, kS1], [kAct1], []⟩).length = 0 from rfl]; have hB10 := Lib.hid (below_step hB9.out hb); clear hS hb))
    )
  go_ret
  exact ⟨rfl, hB10.out⟩
end Go.Proofs.YtplhkfppjemjmaaDoor.Q
end
section
namespace Go.Proofs.YtplhkfppjemjmaaDoor.Q
open Go.RowKit Go.Proofs.YtplhkfppjemjmaaDoorW.PrintWords Go.Proofs.YtplhkfppjemjmaaDoorW.PrintLast Go.Proofs.YtplhkfppjemjmaaDoorW.PrintMore
set_option linter.unusedVariables false
set_option linter.unusedSimpArgs false
open Go.Proofs.YtplhkfppjemjmaaDoorS
set_option maxHeartbeats 8000000 in
set_option maxRecDepth 1000000 in
theorem rebusref01_SameTexts.calls {A B : Option Addr} {c d : Nat} {l : List ByteArray} {w : World} (hl : l.length ≤ 1048576) (ha : Kd.C Kd.string w A l.length l) (hb : Kd.C Kd.string w B l.length l) :
    Calls Tryd.prog 21 #[.slice A l.length c, .slice B l.length d] w fun e w' => e = .returned (.bool true) ∧ Below w.heap.size w w' := by
  have t0 : ((l.length : Int) != (l.length : Int)) = false := by simp
  go_enter Tryd.func21, Tryd.ntmps21
  go_wp2
  go_loopw [5] (fun v5 wr => ∃ (i : Nat) (q : Int), v5 = .int .i64 q ∧ Hid (q = i ∧ i ≤ l.length) ∧ Hid (Below w.heap.size w wr)) (fun v5 _ => l.length - (intOf v5).toNat)
  case atStart => exact ⟨0, 0, rfl, Lib.hid ⟨rfl, Nat.zero_le _⟩, Lib.hid (Below.refl _ _)⟩
  case round =>
    obtain ⟨i, q, rfl, hq, hB⟩ := hrel
    by_cases hlt : i < l.length
    · have hq0 : 0 ≤ q := by have := hq.out; omega
      have hq1 : q < (l.length : Int) := by have := hq.out; omega
      have hq3 : q < 1048576 := by omega
      obtain ⟨ad, eA, z0⟩ := Kd.at_string (Kd.C_below ha hB.out) q hq0 hq1
      obtain ⟨ad2, eA2, z1⟩ := Kd.at_string (Kd.C_below hb hB.out) q hq0 hq1
      cases eA
      cases eA2
      obtain ⟨x, hx⟩ : ∃ x, rdOf ByteArray.empty l q = x := ⟨_, rfl⟩
      rw [hx] at z0 z1
      replace hlt := Lib.hid hlt
      clear hx
      go_wp2
      go_quiet (fail)
      go_wp2
      refine ⟨⟨i + 1, q + 1, rfl, Lib.hid ⟨by have := hq.out; omega, hlt.out⟩, Lib.hid (pw_below_drewN hB.out _)⟩, ?_⟩
      simp only [intOf]; have := hq.out; have := hlt.out; omega
    · have hge : ¬ q < (l.length : Int) := by have := hq.out; omega
      go_wp2
      go_ret
      exact ⟨rfl, hB.out⟩
set_option maxHeartbeats 8000000 in
set_option maxRecDepth 1000000 in
theorem rebusref23_Same.calls {A B A2 B2 : Option Addr} {c d c2 d2 : Nat} {l : List ByteArray} {b : List Bool} {at_ : Int} {dn : Bool} {w : World} (hl : l.length ≤ 1048576) (hm : b.length ≤ 1048576) (h1 : ShtR A c l B d b w) (h2 : ShtR A2 c2 l B2 d2 b w) :
    Calls Tryd.prog 8 #[.agg #[.slice A l.length c, .slice B b.length d, .int .i64 at_, .bool dn], .agg #[.slice A2 l.length c2, .slice B2 b.length d2, .int .i64 at_, .bool dn]] w fun e w' => e = .returned (.bool true) ∧ Below w.heap.size w w' := by
  have hx := box2 w (.cells #[.slice A l.length c, .slice B b.length d, .int .i64 at_, .bool dn] 38) (.cells #[.slice A2 l.length c2, .slice B2 b.length d2, .int .i64 at_, .bool dn] 38)
  replace hx := Lib.hid hx
  have hu30 := Tryd.underlying38
  have t0 : ((b.length : Int) != (b.length : Int)) = false := by simp
  have t1 : (at_ != at_) = false := by simp
  have t2 : (dn != dn) = false := by simp
  have t3 : (dn == dn) = true := by simp
  go_enter Tryd.func8, Tryd.ntmps8
  go_wp2_with (first
    | (go_at_call 21; go_must (refine (rebusref01_SameTexts.calls hl (h1.below hx.out.2.2).r7 (h2.below hx.out.2.2).r7).mono ?_; rintro e w3 ⟨rfl, hb3⟩; have hB3 := Lib.hid (below_step hx.out.2.2 hb3); have bP := Lib.hid (blk_below hx.out.1 hb3); have bS := Lib.hid (blk_below hx.out.2.1 hb3); have p3 := cells4 bP.out; have q3 := cells4 bS.out; clear hb3)))
  go_loopw [5] (fun v5 wr => ∃ (i : Nat) (q : Int), v5 = .int .i64 q ∧ Hid (q = i ∧ i ≤ b.length) ∧ Hid (wr.heap[w.heap.size]? = some (.cells #[.slice A l.length c, .slice B b.length d, .int .i64 at_, .bool dn] 38 (0, 0))) ∧ Hid (wr.heap[w.heap.size + 1]? = some (.cells #[.slice A2 l.length c2, .slice B2 b.length d2, .int .i64 at_, .bool dn] 38 (0, 0))) ∧ Hid (Below w.heap.size w wr)) (fun v5 _ => b.length - (intOf v5).toNat)
  case atStart => exact ⟨0, 0, rfl, Lib.hid ⟨rfl, Nat.zero_le _⟩, bP, bS, hB3⟩
  case round =>
    clear hB3 bP bS p3 q3
    obtain ⟨i, q, rfl, hq, bP, bS, hB⟩ := hrel
    have p4 := cells4 bP.out
    have q4 := cells4 bS.out
    by_cases hlt : i < b.length
    · have hq0 : 0 ≤ q := by have := hq.out; omega
      have hq1 : q < (b.length : Int) := by have := hq.out; omega
      have hq3 : q < 1048576 := by omega
      obtain ⟨ad, eA, z0⟩ := Kd.at_bool (h1.below hB.out).r8 q hq0 hq1
      obtain ⟨ad2, eA2, z1⟩ := Kd.at_bool (h2.below hB.out).r8 q hq0 hq1
      cases eA
      cases eA2
      obtain ⟨x, hx⟩ : ∃ x, rdOf false b q = x := ⟨_, rfl⟩
      rw [hx] at z0 z1
      have t4 : (x != x) = false := by simp
      replace hlt := Lib.hid hlt
      clear hx
      go_wp2
      go_quiet (fail)
      go_wp2
      refine ⟨⟨i + 1, q + 1, rfl, Lib.hid ⟨by have := hq.out; omega, hlt.out⟩, Lib.hid (blk_drewN bP.out _), Lib.hid (blk_drewN bS.out _), Lib.hid (pw_below_drewN hB.out _)⟩, ?_⟩
      simp only [intOf]; have := hq.out; have := hlt.out; omega
    · have hge : ¬ q < (b.length : Int) := by have := hq.out; omega
      go_wp2
      go_ret
      exact ⟨rfl, hB.out⟩
end Go.Proofs.YtplhkfppjemjmaaDoor.Q
end
section
namespace Go.Proofs.YtplhkfppjemjmaaDoor.Q
open Go.RowKit Go.Proofs.YtplhkfppjemjmaaDoorW.PrintWords Go.Proofs.YtplhkfppjemjmaaDoorW.PrintLast Go.Proofs.YtplhkfppjemjmaaDoorW.PrintMore
set_option linter.unusedVariables false
set_option linter.unusedSimpArgs false
open Go.Proofs.YtplhkfppjemjmaaDoorS
theorem at_shtR {w : World} {base n c : Nat} {ok : Nat → Prop} {ad : Addr} {xs : List Sht} (h : Kd.R kSht 38 w base ok (.slice (some ad) n c) xs) (i : Int) (h0 : 0 ≤ i) (h1 : i < n) :
    ∃ A7 c7 A8 c8, w.cell? (ad.add (i.toNat * 4)) = some (.slice A7 (rdSht xs i).1.length c7) ∧ w.cell? ⟨(ad.add (i.toNat * 4)).block, (ad.add (i.toNat * 4)).off + 1, none⟩ = some (.slice A8 (rdSht xs i).2.1.length c8) ∧ w.cell? ⟨(ad.add (i.toNat * 4)).block, (ad.add (i.toNat * 4)).off + 2, none⟩ = some (.int .i64 (rdSht xs i).2.2.1) ∧ w.cell? ⟨(ad.add (i.toNat * 4)).block, (ad.add (i.toNat * 4)).off + 3, none⟩ = some (.bool (rdSht xs i).2.2.2) ∧ Kd.R Kd.string 9 w base ok (.slice A7 (rdSht xs i).1.length c7) (rdSht xs i).1 ∧ Kd.R Kd.bool 4 w base ok (.slice A8 (rdSht xs i).2.1.length c8) (rdSht xs i).2.1 := by
  obtain ⟨c, hcl, h2, hcc⟩ := Kd.R_get h ([], [], 0, false) i h0 h1
  obtain ⟨v0, v1, rfl, q0, q1⟩ := kSht_M (kSht.M_mono (fun _ hk => hk.1) h2)
  obtain ⟨A7, c7, rfl⟩ := Kd.R_slice q0
  obtain ⟨A8, c8, rfl⟩ := Kd.R_slice q1
  have hc : ∀ j u, ([.slice A7 (rdSht xs i).1.length c7, .slice A8 (rdSht xs i).2.1.length c8, .int .i64 (rdSht xs i).2.2.1, .bool (rdSht xs i).2.2.2] : List Value)[j]? = some u → w.cell? (ad.add (i.toNat * 4 + j)) = some u := hcc
  exact ⟨A7, c7, A8, c8, hc 0 _ rfl, by rw [← add_field _ _ 1 (by omega)]; exact hc 1 _ rfl, by rw [← add_field _ _ 2 (by omega)]; exact hc 2 _ rfl, by rw [← add_field _ _ 3 (by omega)]; exact hc 3 _ rfl, q0, q1⟩
theorem shtR_of {w : World} {b1 b2 n m c7 c8 : Nat} {ok1 ok2 : Nat → Prop} {A7 A8 : Option Addr} {x : List ByteArray} {y : List Bool} (h0 : Kd.R Kd.string 9 w b1 ok1 (.slice A7 n c7) x) (h1 : Kd.R Kd.bool 4 w b2 ok2 (.slice A8 m c8) y) : ShtR A7 c7 x A8 c8 y w := by
  have r0 := Kd.R_reads' h0
  have r1 := Kd.R_reads' h1
  exact ⟨r0.2.2, by rw [← r0.1]; exact r0.2.1, r1.2.2, by rw [← r1.1]; exact r1.2.1⟩
theorem same24_loop (l : List Act3) (hl : l.length ≤ 1048576) : ∀ (d i : Nat), i + d = l.length → rebusref24_Same.l0 (d + 1) l l (i : Int) = some true
  | 0, i, h => by
    unfold rebusref24_Same.l0
    rw [if_neg (by omega)]
  | d + 1, i, h => by
    unfold rebusref24_Same.l0
    rw [if_pos (by omega), if_pos (by omega), if_pos (by omega), if_neg (by simp), w64 (by omega) (by omega)]
    exact same24_loop l hl d (i + 1) (by omega)
theorem same24_calls {A B : Option Addr} {c d : Nat} {l : List Act3} {w : World} (hl : l.length ≤ 1048576) (h1 : Kd.C kAct w A l.length l) (k1 : l.length ≤ c) (h2 : Kd.C kAct w B l.length l) (k2 : l.length ≤ d) :
    Calls Tryd.prog 14 #[.slice A l.length c, .slice B l.length d] w fun e w' => e = .returned (.bool true) ∧ Below w.heap.size w w' := by
  refine (rebusref24_Same.calls (l.length + 1) A c l B d l true w h1 k1 h2 k2 ?_).mono ?_
  · unfold rebusref24_Same.f
    rw [if_pos rfl]
    exact same24_loop l hl l.length 0 (by omega)
  · rintro e w' ⟨rfl, hd⟩
    exact ⟨rfl, hd.below⟩
theorem addr_block (ad : Addr) (m : Nat) : (ad.add m).block = ad.block := by unfold Addr.add; split <;> rfl
theorem cell_side {w w' : World} {S : Nat → Prop} {a : Addr} {v : Value} (hc : w.cell? a = some v) (hk : Kept w w' S) (hne : ¬ S a.block) : w'.cell? a = some v := by
  have := hk.2 a.block (World.block_lt_of_cell? w a hc) hne
  simpa [World.cell?, this] using hc
structure SBox (own : Nat → Prop) (w : World) (base b : Nat) (x : Sht) (A7 : Option Addr) (c7 : Nat) (A8 : Option Addr) (c8 : Nat) : Prop where
  bx : w.heap[b]? = some (.cells #[.slice A7 x.1.length c7, .slice A8 x.2.1.length c8, .int .i64 x.2.2.1, .bool x.2.2.2] 38 (0, 0))
  n : ¬ own b
  r7 : Kd.R Kd.string 9 w base (fun k => ¬ own k) (.slice A7 x.1.length c7) x.1
  r8 : Kd.R Kd.bool 4 w base (fun k => ¬ own k) (.slice A8 x.2.1.length c8) x.2.1
theorem SBox.below {own : Nat → Prop} {w w' : World} {base b : Nat} {x : Sht} {A7 : Option Addr} {c7 : Nat} {A8 : Option Addr} {c8 : Nat} (h : SBox own w base b x A7 c7 A8 c8) (hb : Below w.heap.size w w') : SBox own w' base b x A7 c7 A8 c8 := ⟨blk_below h.bx hb, h.n, Kd.R_below h.r7 hb, Kd.R_below h.r8 hb⟩
theorem SBox.beside {own : Nat → Prop} {w w' : World} {base b : Nat} {x : Sht} {A7 : Option Addr} {c7 : Nat} {A8 : Option Addr} {c8 : Nat} (h : SBox own w base b x A7 c7 A8 c8) (hk : Kept w w' own) : SBox (nextOwn own w w') w' base b x A7 c7 A8 c8 :=
  ⟨(blk_beside h.bx h.n hk).1, (blk_beside h.bx h.n hk).2, R_beside h.r7 hk, R_beside h.r8 hk⟩
structure SideW (own : Nat → Prop) (w : World) (base : Nat) (vL : Value) (L : List Sht) (vg : Value) (log : List Act3) (b11 b13 : Nat) (x y : Sht) (A1 : Option Addr) (c1 : Nat) (A2 : Option Addr) (c2 : Nat) (A3 : Option Addr) (c3 : Nat) (A4 : Option Addr) (c4 : Nat) : Prop where
  l : Kd.R kSht 38 w base (fun k => ¬ own k) vL L
  g : Kd.R kAct 36 w base (fun k => ¬ own k) vg log
  x : SBox own w base b11 x A1 c1 A2 c2
  y : SBox own w base b13 y A3 c3 A4 c4
section
variable {own : Nat → Prop} {w w' : World} {base : Nat} {vL : Value} {L : List Sht} {vg : Value} {log : List Act3} {b11 b13 : Nat} {x y : Sht} {A1 : Option Addr} {c1 : Nat} {A2 : Option Addr} {c2 : Nat} {A3 : Option Addr} {c3 : Nat} {A4 : Option Addr} {c4 : Nat}
theorem SideW.below (h : SideW own w base vL L vg log b11 b13 x y A1 c1 A2 c2 A3 c3 A4 c4) (hb : Below w.heap.size w w') : SideW own w' base vL L vg log b11 b13 x y A1 c1 A2 c2 A3 c3 A4 c4 := ⟨Kd.R_below h.l hb, Kd.R_below h.g hb, h.x.below hb, h.y.below hb⟩
theorem SideW.beside (h : SideW own w base vL L vg log b11 b13 x y A1 c1 A2 c2 A3 c3 A4 c4) (hk : Kept w w' own) : SideW (nextOwn own w w') w' base vL L vg log b11 b13 x y A1 c1 A2 c2 A3 c3 A4 c4 := ⟨R_beside h.l hk, R_beside h.g hk, h.x.beside hk, h.y.beside hk⟩
end
end Go.Proofs.YtplhkfppjemjmaaDoor.Q
end
