/- PART 18 OF A PROOF: Lean functions, and that the program computes them; written by hand and by a program. Not trusted: Lean checks it. -/
import Derived.Lib.AtoiErrMem
import Derived.WalkMore
import Derived.Test.YtjopbfidjapmbaaGreatDoorRa15
import Derived.Test.YtjopbfidjapmbaaGreatDoorRa16
import Derived.Test.YtjopbfidjapmbaaGreatDoorRa17
set_option linter.unusedVariables false
set_option linter.unusedSimpArgs false
section
namespace Go.Proofs.YtjopbfidjapmbaaGreatDoor.Q
open Go.RowKit Go.Proofs.YtjopbfidjapmbaaGreatDoorW.PrintWords Go.Proofs.YtjopbfidjapmbaaGreatDoorW.PrintLast Go.Proofs.YtjopbfidjapmbaaGreatDoorW.PrintMore
set_option linter.unusedVariables false
set_option linter.unusedSimpArgs false
open Go.Proofs.YtjopbfidjapmbaaGreatDoorS
theorem ba_eta (x : ByteArray) : (⟨x.data.toList.toArray⟩ : ByteArray) = x := by cases x; simp
theorem beq_nm {s : ByteArray} {l : List UInt8} (h : s.data.toList = l) (k : Int) : (s.toList == (plainB k).toList) = decide (l = nmL k) := by
  have e1 : s.toList = l := by rw [ByteArray.toList_eq, h]
  have e2 : (plainB k).toList = nmL k := by rw [ByteArray.toList_eq]; rfl
  rw [e1, e2]
  by_cases e : l = nmL k
  · rw [decide_eq_true e, e]; simp
  · rw [decide_eq_false e]; exact beq_eq_false_iff_ne.2 e
theorem trim_ty (r : List UInt8) : Lib.trimPrefix (tyL ++ r) tyL = r := rfl
theorem trim_mv (r : List UInt8) : Lib.trimPrefix (mvL ++ r) mvL = r := rfl
theorem pre_ty (r : List UInt8) : Lib.hasPrefix (tyL ++ r) tyL = true ∧ Lib.hasPrefix (mvL ++ r) tyL = false ∧ Lib.hasPrefix (mvL ++ r) mvL = true := ⟨by simp [Lib.hasPrefix, tyL], rfl, by simp [Lib.hasPrefix, mvL]⟩
theorem good_kind {a : Act3} (h : goodA a = true) : (a.f0 = 1 ∧ a.f1 = 0 ∧ a.f2.toList.isEmpty = false) ∨ (a.f0 = 3 ∧ 0 ≤ a.f1 ∧ a.f2 = ⟨#[]⟩) ∨ ((a.f0 = 2 ∨ a.f0 = 4 ∨ a.f0 = 5 ∨ a.f0 = 6 ∨ a.f0 = 7) ∧ a.f1 = 0 ∧ a.f2 = ⟨#[]⟩) := by
  unfold goodA at h
  by_cases h1 : a.f0 = 1
  · rw [if_pos h1] at h
    simp only [Bool.and_eq_true, decide_eq_true_eq, Bool.not_eq_true'] at h
    exact .inl ⟨h1, h.1.1, h.1.2⟩
  · rw [if_neg h1] at h
    by_cases h3 : a.f0 = 3
    · rw [if_pos h3] at h
      simp only [Bool.and_eq_true, decide_eq_true_eq] at h
      exact .inr (.inl ⟨h3, h.1, nil_of (List.isEmpty_iff.1 h.2)⟩)
    · rw [if_neg h3] at h
      simp only [Bool.and_eq_true, decide_eq_true_eq, Bool.not_eq_true'] at h
      have hne : nmL a.f0 ≠ [] := fun e => by rw [e] at h; exact absurd h.1 (by decide)
      exact .inr (.inr ⟨nm_ne.1 hne, h.2.1, nil_of (List.isEmpty_iff.1 h.2.2)⟩)
set_option maxHeartbeats 8000000 in
set_option maxRecDepth 1000000 in
theorem acts_calls {a : Act3} {s : ByteArray} {w : World} (hT : Tabs w) (hg : goodA a = true) (hs : s.data.toList = lineL a) (hf : a.f1 ≤ 999999999) :
    Calls Tryz.prog 26 #[.string s] w fun e w' => e = .returned (.tuple #[.agg #[.int .i64 a.f0, .int .i64 a.f1, .string a.f2], .bool true]) ∧ Below w.heap.size w w' := by
  have hx := box1 w (.cells #[.int .i64 0, .int .i64 0, .string ⟨#[]⟩] 35)
  replace hx := Lib.hid hx
  have hu := Tryz.underlying35
  have hne : s.toList.isEmpty = false := by
    rw [ByteArray.toList_eq, hs]
    have := line_ne hg
    cases h : lineL a with
    | nil => exact absurd h this
    | cons x l => rfl
  have hkind := Lib.hid (good_kind hg)
  have hline := Lib.hid (line_nm hg)
  replace hs := Lib.hid hs
  go_enter Tryz.func26, Tryz.ntmps26
  go_wp2
  go_loopw [4] (fun v4 wr => ∃ q : Int, v4 = .int .i64 q ∧ Hid (1 ≤ q ∧ q ≤ 8) ∧ Hid (∀ k, 1 ≤ k → k < q → lineL a ≠ nmL k) ∧ Hid (wr.heap[w.heap.size]? = some (.cells #[.int .i64 0, .int .i64 0, .string ⟨#[]⟩] 35 (0, 0))) ∧ Hid (Below w.heap.size w wr)) (fun v4 _ => 8 - (intOf v4).toNat)
  case atStart => exact ⟨1, rfl, Lib.hid (by decide), Lib.hid (fun k h1 h2 => absurd h1 (by omega)), Lib.hid hx.out.1, Lib.hid hx.out.2⟩
  case round =>
    obtain ⟨q, rfl, hq, hnk, hX, hB⟩ := hrel
    have tx := cells3 hX.out
    have tf := frozen3 hX.out
    by_cases hlt : q ≤ 7
    · have hq3 : q < 100 := by omega
      have hq0 : 0 ≤ q := by have := hq.out; omega
      have hbq := beq_nm hs.out q
      by_cases he : lineL a = nmL q
      · rw [decide_eq_true he] at hbq
        have hk := (hline.out q).1 he
        have hE : (a.f1 = 0 ∧ a.f2 = ⟨#[]⟩) := by
          rcases hkind.out with h | h | h
          · exact absurd h.1 hk.2.1
          · exact absurd h.1 hk.2.2
          · exact h.2
        replace hk := Lib.hid hk
        clear he
        go_wp2_with (first
          | (go_at_call 42; go_must (refine plain_calls.mono ?_; rintro e w3 ⟨rfl, hb⟩; have hB3 := Lib.hid (below_step hB.out hb); have X3 := blk_below hX.out hb; have x3 := cells3 X3; have f3 := frozen3 X3; clear hb))
          | ((with_reducible refine gate_store (t := 35) (p := 2) (v := .tmp 24) rfl ?_); go_must (refine store_event (w1 := put3 w3 w.heap.size (.int .i64 q) (.int .i64 0) (.string ⟨#[]⟩)) (by rfl) (by rfl) (by rfl) ?hr ?_; (case hr => first | (go_simp; done) | (go_simp; rfl)); intro w5 hw5; have Fw5 := put3_facts X3 (.int .i64 q) (.int .i64 0) (.string ⟨#[]⟩); rw [← hw5] at Fw5; clear hw5)))
        refine bodyPost_ret (results_ct rfl _ _ w.heap.size 35 #[.int .i64 q, .int .i64 0, .string ⟨#[]⟩] (0, 0) _ rfl Fw5.1 Tryz.underlying35 rfl (by kernel_rfl)) rfl ?_
        rw [hE.1, hE.2, hk.out.1]
        exact ⟨rfl, Fw5.2.2 _ _ hB3.out (Nat.le_refl _)⟩
      · rw [decide_eq_false he] at hbq
        replace he := Lib.hid he
        go_wp2_with (first
          | (go_at_call 42; go_must (refine plain_calls.mono ?_; rintro e w3 ⟨rfl, hb⟩; have hB3 := Lib.hid (below_step hB.out hb); have X3 := Lib.hid (blk_below hX.out hb); clear hb)))
        refine ⟨⟨q + 1, rfl, Lib.hid ⟨by have := hq.out; omega, by omega⟩, Lib.hid (fun k h1 h2 => ?_), X3, hB3⟩, ?_⟩
        · by_cases hkq : k = q
          · rw [hkq]; exact he.out
          · exact hnk.out k h1 (by omega)
        · simp only [intOf]; have := hq.out; omega
    · have hq8 : q = 8 := by have := hq.out; omega
      subst hq8
      rcases hkind.out with h | h | h
      · obtain ⟨h1, h2, h3⟩ := h
        have hl : lineL a = tyL ++ a.f2.data.toList := by unfold lineL; rw [if_pos h1]
        have hct := Lib.hid (Tryz.strings_CutPrefix s ⟨#[116, 121, 112, 101, 32]⟩ wr)
        have e1 : Lib.trimPrefix s.data.toList (⟨#[116, 121, 112, 101, 32]⟩ : ByteArray).data.toList = a.f2.data.toList := by rw [hs.out, hl]; exact trim_ty _
        have e2 : Lib.hasPrefix s.data.toList (⟨#[116, 121, 112, 101, 32]⟩ : ByteArray).data.toList = true := by rw [hs.out, hl]; exact (pre_ty _).1
        rw [e1, e2, ba_eta] at hct
        clear e1 e2
        replace hl := Lib.hid hl
        replace h1 := Lib.hid h1
        replace h2 := Lib.hid h2
        go_wp2_with (first
          | (go_at_call 47; go_must (refine hct.out.mono ?_; rintro e w3 ⟨rfl, hw⟩; rw [hw]; clear hw w3))
          | ((with_reducible refine gate_store (t := 35) (p := 2) (v := .tmp 32) rfl ?_); go_must (refine store_event (w1 := put3 wr w.heap.size (.int .i64 1) (.int .i64 0) (.string a.f2)) (by rfl) (by rfl) (by rfl) ?hr ?_; (case hr => first | (go_simp; done) | (go_simp; rfl)); intro w5 hw5; have Fw5 := put3_facts hX.out (.int .i64 1) (.int .i64 0) (.string a.f2); rw [← hw5] at Fw5; clear hw5)))
        refine bodyPost_ret (results_ct rfl _ _ w.heap.size 35 #[.int .i64 1, .int .i64 0, .string a.f2] (0, 0) _ rfl Fw5.1 Tryz.underlying35 rfl (by kernel_rfl)) rfl ?_
        rw [h1.out, h2.out]
        exact ⟨rfl, Fw5.2.2 _ _ hB.out (Nat.le_refl _)⟩
      · obtain ⟨h1, h2, h3⟩ := h
        have hl : lineL a = mvL ++ Lib.itoa a.f1 := by unfold lineL; rw [if_neg (by omega), if_pos h1]
        have hct := Tryz.strings_CutPrefix s ⟨#[116, 121, 112, 101, 32]⟩ wr
        have e1 : Lib.hasPrefix s.data.toList (⟨#[116, 121, 112, 101, 32]⟩ : ByteArray).data.toList = false := by rw [hs.out, hl]; exact (pre_ty _).2.1
        rw [e1] at hct
        have hcm := Tryz.strings_CutPrefix s ⟨#[109, 111, 118, 101, 32]⟩ wr
        have e2 : Lib.trimPrefix s.data.toList (⟨#[109, 111, 118, 101, 32]⟩ : ByteArray).data.toList = Lib.itoa a.f1 := by rw [hs.out, hl]; exact trim_mv _
        have e3 : Lib.hasPrefix s.data.toList (⟨#[109, 111, 118, 101, 32]⟩ : ByteArray).data.toList = true := by rw [hs.out, hl]; exact (pre_ty _).2.2
        rw [e2, e3] at hcm
        clear e1 e2 e3
        replace hct := Lib.hid hct
        replace hcm := Lib.hid hcm
        obtain ⟨dg, hdg⟩ : ∃ d : ByteArray, (⟨(Lib.itoa a.f1).toArray⟩ : ByteArray) = d := ⟨_, rfl⟩
        have hdl : dg.data.toList = Lib.itoa a.f1 := by rw [← hdg]
        have hds : dg.size ≤ 9 := by
          rw [← hdg]
          show (Lib.itoa a.f1).toArray.size ≤ 9
          rw [List.size_toArray, dec_itoa h2]
          exact dec_len 8 _ (by omega)
        have hat : Lib.atoi dg.data.toList = some a.f1 := by
          rw [hdl, dec_itoa h2, dec_atoi]
          congr 1
          omega
        rw [hdg] at hcm
        have hds2 : decide ((dg.size : Int) ≤ 9) = true := decide_eq_true (by omega)
        have h2b : decide (a.f1 ≥ 0) = true := decide_eq_true h2
        have h2c : decide (0 ≤ a.f1) = true := decide_eq_true h2
        have tok1 : True := trivial
        have hdd : (dg.toList == dg.toList) = true := by simp
        replace hat := Lib.hid hat
        replace hdg := Lib.hid hdg
        replace hl := Lib.hid hl
        replace h1 := Lib.hid h1
        go_wp2_with (first
          | (go_at_call 47; have tq := tok1; go_must (clear tq tok1; refine hct.out.mono ?_; rintro e w3 ⟨rfl, hw⟩; rw [hw]; clear hw w3))
          | (go_at_call 47; go_must (refine hcm.out.mono ?_; rintro e w3 ⟨rfl, hw⟩; rw [hw]; clear hw w3))
          | (go_at_call 48; go_must (refine (Tryz.strconv_Atoi dg a.f1 (by omega) hat.out wr).mono ?_; rintro e w3 ⟨rfl, t, hw3⟩; have hb : Below wr.heap.size wr w3 := (by rw [hw3]; exact Lib.bytesWorld_below _ _ _); clear hw3; have hB3 := Lib.hid (below_step hB.out hb); have X3 := Lib.hid (blk_below hX.out hb); clear hb tx tf))
          | (go_at_call 41; go_must (refine (Tryz.strconv_Itoa a.f1 (by omega) (by omega) w3 (tabs_below hT hB3.out).p).mono ?_; rw [hdg.out]; rintro e w4 ⟨rfl, kk, os, hw4⟩; have hb : Below w3.heap.size w3 w4 := (by rw [hw4]; exact Lib.below_grow _ _ (Nat.le_refl _) _ _); clear hw4; have hB4 := Lib.hid (below_step hB3.out hb); have X4 := blk_below X3.out hb; have x4 := cells3 X4; have f4 := frozen3 X4; clear hb))
          | ((with_reducible refine gate_store (t := 35) (p := 2) (v := .tmp 46) rfl ?_); go_must (refine store_event (w1 := put3 w4 w.heap.size (.int .i64 3) (.int .i64 a.f1) (.string ⟨#[]⟩)) (by rfl) (by rfl) (by rfl) ?hr ?_; (case hr => first | (go_simp; done) | (go_simp; rfl)); intro w5 hw5; have Fw5 := put3_facts X4 (.int .i64 3) (.int .i64 a.f1) (.string ⟨#[]⟩); rw [← hw5] at Fw5; clear hw5)))
        refine bodyPost_ret (results_ct rfl _ _ w.heap.size 35 #[.int .i64 3, .int .i64 a.f1, .string ⟨#[]⟩] (0, 0) _ rfl Fw5.1 Tryz.underlying35 rfl (by kernel_rfl)) rfl ?_
        rw [h1.out, h3]
        exact ⟨rfl, Fw5.2.2 _ _ hB4.out (Nat.le_refl _)⟩
      · exact absurd (((hline.out a.f0).2 ⟨rfl, by omega, by omega⟩)) (hnk.out a.f0 (by omega) (by omega))
end Go.Proofs.YtjopbfidjapmbaaGreatDoor.Q
end
section
namespace Go.Proofs.YtjopbfidjapmbaaGreatDoor.Q
open Go.RowKit Go.Proofs.YtjopbfidjapmbaaGreatDoorW.PrintWords Go.Proofs.YtjopbfidjapmbaaGreatDoorW.PrintLast Go.Proofs.YtjopbfidjapmbaaGreatDoorW.PrintMore
set_option linter.unusedVariables false
set_option linter.unusedSimpArgs false
open Go.Proofs.YtjopbfidjapmbaaGreatDoorS
theorem joinL_snoc (l : List Act3) (a : Act3) : joinL (l ++ [a]) = joinL l ++ (lineL a ++ [10]) := by simp [joinL]
theorem cells_join (l : List Act3) (a : Act3) (s : ByteArray) (h : s.data.toList = lineL a) : Lib.byteCells (joinL l) ++ Lib.strCells (s ++ ⟨#[10]⟩) = Lib.byteCells (joinL (l ++ [a])) := by
  have e : (s ++ (⟨#[10]⟩ : ByteArray)).data.toList = lineL a ++ [10] := by rw [ba_append, h]
  rw [joinL_snoc]
  simp only [Lib.byteCells, Lib.strCells, e, List.map_append]
theorem line_len {a : Act3} (hr : -9223372036854775808 ≤ a.f1 ∧ a.f1 ≤ 9223372036854775807) (hz : a.f2.size ≤ 1048576) : (lineL a).length ≤ 1048616 := by
  have h := dec_small hr.1 hr.2
  have hn := nm_len a.f0
  unfold lineL
  split
  · rw [List.length_append, Array.length_toList]
    show 5 + a.f2.size ≤ _
    omega
  · split
    · rw [List.length_append]
      show 5 + _ ≤ _
      omega
    · omega
theorem join_len : ∀ (l : List Act3), (∀ a ∈ l, (-9223372036854775808 ≤ a.f1 ∧ a.f1 ≤ 9223372036854775807) ∧ a.f2.size ≤ 1048576) → (joinL l).length ≤ l.length * 1048617
  | [], _ => Nat.zero_le _
  | a :: l, h => by
    have h1 := line_len (h a List.mem_cons_self).1 (h a List.mem_cons_self).2
    have h2 := join_len l (fun b hb => h b (List.mem_cons_of_mem _ hb))
    simp only [joinL, List.flatMap_cons, List.length_append, List.length_cons, List.length_nil] at h2 ⊢
    omega
theorem nl_size {n : Nat} {s : ByteArray} {m : Nat} (h1 : n ≤ 1000 * 1048617) (h2 : s.size ≤ m + 40) (h3 : m ≤ 1048576) : n + (s ++ (⟨#[10]⟩ : ByteArray)).size ≤ 140737488355328 := by
  have e : (s ++ (⟨#[10]⟩ : ByteArray)).size = s.size + 1 := by rw [ba_size]; rfl
  rw [e]
  omega
set_option maxHeartbeats 8000000 in
set_option maxRecDepth 1000000 in
theorem write_calls {A : Option Addr} {c : Nat} {log : List Act3} {w : World} (hT : Tabs w) (hr : Kd.C kAct w A log.length log) (hn : log.length ≤ 1000) (hz : ∀ a ∈ log, (-9223372036854775808 ≤ a.f1 ∧ a.f1 ≤ 9223372036854775807) ∧ a.f2.size ≤ 1048576) :
    Calls Tryz.prog 6 #[.slice A log.length c] w fun e w' => (((∀ a ∈ log, goodA a = true) ∧ e = .returned (.tuple #[.string ⟨(joinL log).toArray⟩, .int .i64 0, .int .i64 0])) ∨ ((∃ a ∈ log, goodA a = false) ∧ ∃ i : Int, e = .returned (.tuple #[.string ⟨#[]⟩, .int .i64 i, .int .i64 231]))) ∧ Below w.heap.size w w' := by
  have hbx := Lib.IsBuilderF.of (Lib.fresh_isBuilder 64 5 w)
  have hB0 := below_alloc (Below.refl w.heap.size w) (.cells #[.pointer none, .slice none 0 0] 64)
  have hu := Tryz.underlying35
  replace hbx := Lib.hid hbx
  replace hB0 := Lib.hid hB0
  go_enter Tryz.func6, Tryz.ntmps6
  go_wp2
  go_loopw [12] (fun v12 wr => ∃ (i : Nat) (q : Int), v12 = .int .i64 q ∧ Hid (q = i ∧ i ≤ log.length) ∧ Hid (∀ a ∈ log.take i, goodA a = true) ∧ Hid (Lib.IsBuilderF 64 5 w.heap.size w.heap.size (Lib.byteCells (joinL (log.take i))) wr) ∧ Hid (Below w.heap.size w wr)) (fun v12 _ => log.length - (intOf v12).toNat)
  case atStart => exact ⟨0, 0, rfl, Lib.hid ⟨rfl, Nat.zero_le _⟩, Lib.hid (fun a h => by cases h), hbx, hB0⟩
  case round =>
    clear hbx hB0
    obtain ⟨i, q, rfl, hq, hg, hbd, hB⟩ := hrel
    have hq0 : 0 ≤ q := by have := hq.out; omega
    by_cases hlt : i < log.length
    · have hq1 : q < (log.length : Int) := by have := hq.out; omega
      have hq3 : q < 1048576 := by omega
      obtain ⟨ad, eA, z0, z1, z2⟩ := at_T35 (Kd.C_below hr hB.out) q hq0 hq1
      cases eA
      obtain ⟨a, ha⟩ : ∃ a, rd_T35 log q = a := ⟨_, rfl⟩
      have hai : acN log i = a := by rw [← ha]; unfold acN rd_T35; rw [hq.out.1, Int.toNat_natCast]
      have hmem : a ∈ log := by rw [← hai]; exact acN_mem hlt
      have htk : log.take (i + 1) = log.take i ++ [a] := by rw [← hai]; exact (take_snoc _ hlt).symm
      rw [ha] at z0 z1 z2
      clear ha hai
      have haz := hz a hmem
      have hY := Lib.hid (box1 wr (.cells #[.int .i64 a.f0, .int .i64 a.f1, .string a.f2] 35))
      have y0 := cells3 hY.out.1
      have hlen : (Lib.byteCells (joinL (log.take i))).length ≤ 1000 * 1048617 := by
        have h := join_len (log.take i) (fun b hb => hz b (List.mem_of_mem_take hb))
        have h2 : (log.take i).length ≤ 1000 := by rw [List.length_take]; omega
        have h3 : (Lib.byteCells (joinL (log.take i))).length = (joinL (log.take i)).length := by simp [Lib.byteCells]
        rw [h3]
        exact Nat.le_trans h (Nat.mul_le_mul_right _ h2)
      replace hlt := Lib.hid hlt
      replace htk := Lib.hid htk
      replace hmem := Lib.hid hmem
      replace hlen := Lib.hid hlen
      cases hga : goodA a with
      | false =>
        go_wp2_with (first
          | (go_at_call 21; go_must (refine (line_calls (tabs_below hT (below_step hB.out hY.out.2)) haz.1 haz.2).mono ?_; rintro e w3 ⟨s, rfl, hs, hsz, hb⟩; rw [hga]; have hB3 := Lib.hid (below_step (below_step hB.out hY.out.2) hb); clear hb hs hsz)))
        go_ret3
        exact ⟨.inr ⟨⟨a, hmem.out, hga⟩, q, rfl⟩, hB3.out⟩
      | true =>
        go_wp2_with (first
          | (go_at_call 21; go_must (refine (line_calls (tabs_below hT (below_step hB.out hY.out.2)) haz.1 haz.2).mono ?_; rintro e w3 ⟨s, rfl, hs, hsz, hb⟩; rw [hga]; have hB3 := Lib.hid (below_step (below_step hB.out hY.out.2) hb); have hbd3 := Lib.hid (bld_below (bld_below hbd.out hY.out.2) hb); have hcj := Lib.hid (cells_join (log.take i) a s (hs hga)); have big : ¬ (9223372036854775807 < s.size + 1) := (by have := haz.2; omega); replace hsz := Lib.hid hsz; clear hb hs))
          | (go_at_call 22; go_must (have hq9 := bld_WriteString w.heap.size w.heap.size (Lib.byteCells (joinL (log.take i))) (s ++ ⟨#[10]⟩) w3 hbd3.out (nl_size hlen.out hsz.out haz.2) hB3.out.size; refine hq9.mono ?_; clear hq9; rintro e w4 ⟨he4, hbd4, hb4, _⟩; rw [he4]; clear he4; have hbd5 := Lib.hid (show Lib.IsBuilderF 64 5 w.heap.size w.heap.size (Lib.byteCells (joinL (log.take (i + 1)))) w4 by rw [htk.out, ← hcj.out]; exact .inr hbd4); have hB4 := Lib.hid (hB3.out.trans hb4); clear hbd4 hb4)))
        refine ⟨⟨i + 1, q + 1, rfl, Lib.hid ⟨by have := hq.out; omega, hlt.out⟩, Lib.hid (fun b hb => ?_), hbd5, hB4⟩, ?_⟩
        · rw [htk.out] at hb
          rcases List.mem_append.1 hb with hb | hb
          · exact hg.out b hb
          · rw [List.mem_singleton.1 hb]; exact hga
        · simp only [intOf]; have := hq.out; have := hlt.out; omega
    · have hge : ¬ q < (log.length : Int) := by have := hq.out; omega
      have hi : log.take i = log := List.take_of_length_le (by omega)
      rw [hi] at hg hbd
      go_wp2_with (first
        | (go_at_call 23; go_must (refine (Tryz.Builder_String_any_k _ _ _ _ hbd.out (bld_size hbd.out)).mono ?_; rintro e w3 ⟨rfl, _, hb, _⟩; have hB3 := Lib.hid (hB.out.trans hb); clear hb)))
      go_ret3
      exact ⟨.inl ⟨hg.out, rfl⟩, hB3.out⟩
end Go.Proofs.YtjopbfidjapmbaaGreatDoor.Q
end
section
namespace Go.Proofs.YtjopbfidjapmbaaGreatDoor.Q
open Go.RowKit Go.Proofs.YtjopbfidjapmbaaGreatDoorW.PrintWords Go.Proofs.YtjopbfidjapmbaaGreatDoorW.PrintLast Go.Proofs.YtjopbfidjapmbaaGreatDoorW.PrintMore
set_option linter.unusedVariables false
set_option linter.unusedSimpArgs false
open Go.Proofs.YtjopbfidjapmbaaGreatDoorS
def sizeOfV : Value → Nat
  | .string s => s.size
  | _ => 0
theorem joinL_cons (a : Act3) (l : List Act3) : joinL (a :: l) = lineL a ++ 10 :: joinL l := by simp [joinL]
theorem ba_len {x : ByteArray} {l : List UInt8} (h : x.data.toList = l) : x.size = l.length := by
  rw [← h, Array.length_toList]
  rfl
set_option maxHeartbeats 8000000 in
set_option maxRecDepth 1000000 in
theorem read_calls {log : List Act3} {text : ByteArray} {w : World} (hT : Tabs w) (hg : ∀ a ∈ log, goodA a = true) (hf : ∀ a ∈ log, a.f1 ≤ 999999999) (ht : text.data.toList = joinL log) (hs : text.size ≤ 65536) (hn : log.length ≤ 1000000) :
    Calls Tryz.prog 9 #[.string text] w fun e w' => ∃ u, e = .returned (.tuple #[u, .int .i64 0, .int .i64 0]) ∧ Kd.R kAct 35 w' w.heap.size (fun _ => True) u log ∧ Below w.heap.size w w' := by
  have hu := Tryz.underlying35
  have k1 : decide ((text.size : Int) > 65536) = false := decide_eq_false (by omega)
  have k2 : decide (65536 < (text.size : Int)) = false := decide_eq_false (by omega)
  replace ht := Lib.hid ht
  replace hg := Lib.hid hg
  replace hf := Lib.hid hf
  go_enter Tryz.func9, Tryz.ntmps9
  go_wp2
  go_step3
  go_wp2
  go_step3
  go_wp2
  go_loopw [5, 6] (fun v5 v6 wr => ∃ (i : Nat) (rest : ByteArray) (vL : Value), vL = v5 ∧ v6 = .string rest ∧ Hid (rest.data.toList = joinL (log.drop i) ∧ rest.size ≤ 65536 ∧ i ≤ log.length) ∧ Hid (Kd.R kAct 35 wr w.heap.size (fun _ => True) vL (log.take i)) ∧ Hid (Below w.heap.size w wr)) (fun _ v6 _ => sizeOfV v6)
  case atStart => exact ⟨0, text, _, rfl, rfl, Lib.hid ⟨ht.out, hs, Nat.zero_le _⟩, Lib.hid (Kd.R_nil _ _ _ _ _), Lib.hid (Below.refl _ _)⟩
  case round =>
    obtain ⟨i, rest, vL, rfl, rfl, hr, hL, hB⟩ := hrel
    by_cases hlt : i < log.length
    · obtain ⟨a, ha⟩ : ∃ a, log.getD i z35 = a := ⟨_, rfl⟩
      have hmem : a ∈ log := by rw [← ha]; exact acN_mem hlt
      have htk : log.take i ++ [a] = log.take (i + 1) := by rw [← ha]; exact take_snoc _ hlt
      have hdr : log.drop i = a :: log.drop (i + 1) := by
        rw [← ha, List.getD_eq_getElem?_getD, List.getElem?_eq_getElem hlt, Option.getD_some]
        exact List.drop_eq_getElem_cons hlt
      have hrl : rest.data.toList = lineL a ++ 10 :: joinL (log.drop (i + 1)) := by rw [hr.out.1, hdr, joinL_cons]
      have hga := hg.out a hmem
      have hfa := hf.out a hmem
      have hne : rest.toList.isEmpty = false := by
        rw [ByteArray.toList_eq, hrl]
        cases h : lineL a <;> rfl
      have hcut : Lib.cut rest.data.toList (⟨#[10]⟩ : ByteArray).data.toList = (lineL a, joinL (log.drop (i + 1)), true) := by rw [hrl]; exact cut_ten (line_no hga)
      obtain ⟨m, hm⟩ := (tabs_below hT hB.out).m
      have hct := Tryz.strings_Cut rest ⟨#[10]⟩ m wr (by have := hr.out.2.1; omega) hm
      rw [hcut] at hct
      obtain ⟨s1, hs1⟩ : ∃ s : ByteArray, (⟨(lineL a).toArray⟩ : ByteArray) = s := ⟨_, rfl⟩
      obtain ⟨s2, hs2⟩ : ∃ s : ByteArray, (⟨(joinL (log.drop (i + 1))).toArray⟩ : ByteArray) = s := ⟨_, rfl⟩
      dsimp only at hct
      rw [hs1, hs2] at hct
      have hs1l : s1.data.toList = lineL a := by rw [← hs1]
      have hs2l : s2.data.toList = joinL (log.drop (i + 1)) := by rw [← hs2]
      have hlen : rest.size = s1.size + s2.size + 1 := by rw [ba_len hrl, ba_len hs1l, ba_len hs2l, List.length_append, List.length_cons]; omega
      replace hct := Lib.hid hct
      replace hs1l := Lib.hid hs1l
      replace hs2l := Lib.hid hs2l
      replace hga := Lib.hid hga
      replace hlen := Lib.hid hlen
      replace htk := Lib.hid htk
      replace hlt := Lib.hid hlt
      clear hs1 hs2 hcut hrl hdr ha hm hmem
      have hfh := Lib.hid hfa
      clear hfa
      go_wp2_with (first
        | (go_at_call 25; go_must (refine hct.out.mono ?_; rintro e w3 ⟨rfl, n, hw3⟩; have hb : Below wr.heap.size wr w3 := (by rw [hw3]; exact pw_below_drewN (Below.refl _ _) _); clear hw3; have hB3 := Lib.hid (below_step hB.out hb); have hL3 := Lib.hid (Kd.R_below hL.out hb); clear hb))
        | (go_at_call 26; go_must (refine (acts_calls (tabs_below hT hB3.out) hga.out hs1l.out hfh.out).mono ?_; rintro e w4 ⟨rfl, hb⟩; have hX := box1 w4 (.cells #[.int .i64 a.f0, .int .i64 a.f1, .string a.f2] 35); have x5 := cells3 hX.1; have hB5 := Lib.hid (below_step (below_step hB3.out hb) hX.2); have hL5 := Lib.hid (Kd.R_below (Kd.R_below hL3.out hb) hX.2); clear hb hX))
        | ((with_reducible refine gate_builtin (b := .append) (xs := #[.tmp 34, .tmp 36]) rfl ?_); go_must (at_builtin; refine Kd.R_append kAct (w0 := w) w.heap.size rfl (.tmp 34) (.tmp 36) 22 35 (.agg #[.int .i64 0, .int .i64 0, .string ⟨#[]⟩]) 32 rfl Tryz.underlying22 act_info rfl (by decide) (by decide) vL (log.take i) a _ (fun _ => True) (fun _ => False) rfl ?hx (k35_mkM _ _ _ a) (fun _ hk => hk.elim) (fun _ _ => trivial) hL5.out hB5.out hB5.out.size (by rw [List.length_take]; have := hlt.out; omega) ?_; (case hx => first | rfl | (go_simp; done) | (go_simp; rfl)); intro v8 w7 hL7 hB7 _ _; rw [htk.out] at hL7; replace hL7 := Lib.hid hL7; replace hB7 := Lib.hid hB7)))
      refine ⟨⟨i + 1, s2, _, rfl, rfl, Lib.hid ⟨hs2l.out, by have := hlen.out; have := hr.out.2.1; omega, hlt.out⟩, hL7, hB7⟩, ?_⟩
      show s2.size < rest.size
      have := hlen.out
      omega
    · have hi : i = log.length := by have := hr.out.2.2; omega
      have he : rest.toList.isEmpty = true := by
        rw [ByteArray.toList_eq, hr.out.1, hi, List.drop_length]
        rfl
      have hL2 : log.take i = log := by rw [hi, List.take_length]
      rw [hL2] at hL
      clear hi hL2
      go_wp2
      rw [Exit.noGoto_ret]
      go_wp2
      go_ret3
      exact ⟨_, rfl, hL.out, hB.out⟩
end Go.Proofs.YtjopbfidjapmbaaGreatDoor.Q
end
section
namespace Go.Proofs.YtjopbfidjapmbaaGreatDoor.Q
open Go.RowKit Go.Proofs.YtjopbfidjapmbaaGreatDoorW.PrintWords Go.Proofs.YtjopbfidjapmbaaGreatDoorW.PrintLast Go.Proofs.YtjopbfidjapmbaaGreatDoorW.PrintMore
set_option linter.unusedVariables false
set_option linter.unusedSimpArgs false
open Go.Proofs.YtjopbfidjapmbaaGreatDoorS
set_option maxHeartbeats 8000000 in
set_option maxRecDepth 1000000 in
theorem sheet_calls {own : Nat → Prop} {w : World} {base g : Nat} {P : Puz} {v2 v3 v4 v5 v6 vs vl vo : Value} {sh : List Sht} {log on : List Act3} (hs : SesV own w base g P v2 v3 v4 v5 v6 vs vl vo sh log on) (h1 : 0 < sh.length) (hl : sh.length ≤ 1048576) (hz : ShtS (topOf sh)) :
    Calls Tryz.prog 19 #[.pointer (some ⟨g, 0, none⟩)] w fun e w' => ∃ u0 u1, e = .returned (.agg #[u0, u1, .int .i64 (topOf sh).2.2.1, .bool (topOf sh).2.2.2]) ∧ Kd.R Kd.string 9 w' w.heap.size (fun _ => True) u0 (topOf sh).1 ∧ Kd.R Kd.bool 4 w' w.heap.size (fun _ => True) u1 (topOf sh).2.1 ∧ Below w.heap.size w w' := by
  obtain ⟨As, cs, rfl, _, hC⟩ := Kd.R_reads hs.rs
  have hx := box1 w (.cells #[.slice none 0 0, .slice none 0 0, .int .i64 0, .bool false] 57)
  replace hx := Lib.hid hx
  have c0 := cells11 (blk_below hs.blk hx.out.2)
  have hu := Tryz.underlying57
  have hC1 := Lib.hid (Kd.C_below hC hx.out.2)
  clear hC hs
  obtain ⟨s, hs⟩ : ∃ s, topOf sh = s := ⟨_, rfl⟩
  have tk := fun (w1 : World) => @topS_calls w1 g 8 cs As sh
  rw [hs] at hz tk ⊢
  clear hs
  go_enter Tryz.func19, Tryz.ntmps19
  go_wp2_with (first
    | (go_at_call 37; go_must (refine (tk _ c0.2.2.2.2.2.2.2.2.1 hC1.out h1 hl).mono ?_; rintro e w3 ⟨A7, c7, A8, c8, rfl, hS, hb⟩; have hB3 := Lib.hid (below_step hx.out.2 hb); have bT := Lib.hid (blk_below hx.out.1 hb); have hX := box1 w3 (.cells #[.slice A7 s.1.length c7, .slice A8 s.2.1.length c8, .int .i64 s.2.2.1, .bool s.2.2.2] 57); replace hX := Lib.hid hX; have S5 := hS.below hX.out.2; have hB5 := below_step hB3.out hX.out.2; have T5 := blk_below bT.out hX.out.2; have B5 := hX.out.1; have x4 := cells4 hX.out.1; have f4 := frozen4 hX.out.1; clear hb hS)))
  have lt5 : w.heap.size < w3.heap.size := blk_lt bT.out
  generalize w3.alloc (.cells #[.slice A7 s.1.length c7, .slice A8 s.2.1.length c8, .int .i64 s.2.2.1, .bool s.2.2.2] 57) = w5 at S5 hB5 T5 B5 x4 f4 ⊢
  obtain ⟨b, hb⟩ : ∃ b, w3.heap.size = b := ⟨_, rfl⟩
  rw [hb] at B5 lt5 x4 f4 ⊢
  clear hX hB3 bT hx c0 x4 f4
  refine start_ (n := 10) (S := fun w' => w'.cell? ⟨b, 0, none⟩ = some (.slice A7 s.1.length c7) ∧ w'.cell? ⟨b, 1, none⟩ = some (.slice A8 s.2.1.length c8)) (ds := [7, 9]) #[false, false, false, false, false, false, false, false, false, false] (by kernel_rfl) rfl rfl (⟨(cells4 (blk_drew B5)).1, (cells4 (blk_drew B5)).2.1⟩) (fun hHeld => ?_)
  replace B5 := blk_drew B5
  replace T5 := blk_drew T5
  replace hB5 := below_drew hB5
  replace S5 := S5.below (below_drew (Below.refl _ _))
  generalize w5.drew = w6 at B5 T5 hB5 S5 hHeld ⊢
  refine pure_ (i := 0) (N := some 11) (v := ?_) (a' := ?_) #[true, false, false, false, false, false, false, false, false, false] rfl rfl (by kernel_rfl) (fun _ _ _ h => h) (Or.inl ⟨by rfl, ?_⟩) ?_ ?_
  rotate_left
  · intro w'; go_simp; with_reducible rfl
  rotate_left
  · simp only [Act.put, List.setIfInBounds_toArray, List.set_cons_zero, List.set_cons_succ, i64_w, i32_w]; rfl
  refine pure_ (i := 3) (N := some 14) (v := ?_) (a' := ?_) #[true, false, false, true, false, false, false, false, false, false] rfl rfl (by kernel_rfl) (fun _ _ _ h => h) (Or.inl ⟨by rfl, ?_⟩) ?_ ?_
  rotate_left
  · intro w'; go_simp; with_reducible rfl
  rotate_left
  · simp only [Act.put, List.setIfInBounds_toArray, List.set_cons_zero, List.set_cons_succ, i64_w, i32_w]; rfl
  refine take_ (i := 1) (N := some 12) (v := ?_) (a' := ?_) #[true, true, false, true, false, false, false, false, false, false] rfl rfl (by kernel_rfl) (fun _ _ _ h => h) (Or.inl ⟨by rfl, ?_⟩) hHeld ?_ ?_
  rotate_left
  · rintro w' ⟨s0, s1⟩; go_simp; with_reducible rfl
  rotate_left
  · simp only [Act.put, List.setIfInBounds_toArray, List.set_cons_zero, List.set_cons_succ, i64_w, i32_w]; rfl
  refine take_ (i := 4) (N := some 15) (v := ?_) (a' := ?_) #[true, true, false, true, true, false, false, false, false, false] rfl rfl (by kernel_rfl) (fun _ _ _ h => h) (Or.inl ⟨by rfl, ?_⟩) hHeld ?_ ?_
  rotate_left
  · rintro w' ⟨s0, s1⟩; go_simp; with_reducible rfl
  rotate_left
  · simp only [Act.put, List.setIfInBounds_toArray, List.set_cons_zero, List.set_cons_succ, i64_w, i32_w]; rfl
  refine one_ (i := 2) (N := some 13) #[true, true, true, true, true, false, false, false, false, false] rfl rfl (by kernel_rfl) (by decide) (fun K hK => ?_)
  refine goes_ Tryz.func38 (by kernel_rfl) rfl #[.slice A7 s.1.length c7] (by rfl) rfl rfl (by first | (go_simp; done) | (go_simp; rfl)) ?_
  refine (slices_Clone_string_string.calls _ _ _ s.1 _ S5.r7 S5.k7 (by unfold slices_Clone_string_string.f; rw [if_pos (by have := hz.l; have := hz.m; omega)])).mono ?_
  rintro e w7 ⟨u0, rfl, ho0, hb7⟩
  have R0 := Kd.R_lower ho0 hB5.size
  have B7 := blk_below B5 hb7
  have T7 := blk_below T5 hb7
  have hB7 := below_step hB5 hb7
  have S7 := S5.below hb7
  clear hb7 ho0
  refine ⟨_, rfl, ?_⟩
  refine hK.out _ _ (⟨(cells4 B7).1, (cells4 B7).2.1⟩) (fun hHeld => ?_)
  clear hK K
  refine norm_ (a' := ?_) ?_ ?_
  rotate_left
  · show Act.put _ (some 13) _ = _
    simp only [Act.put, List.setIfInBounds_toArray, List.set_cons_zero, List.set_cons_succ, i64_w, i32_w]; rfl
  refine pure_ (i := 6) (N := some 17) (v := ?_) (a' := ?_) #[true, true, true, true, true, false, true, false, false, false] rfl rfl (by kernel_rfl) (fun _ _ _ h => h) (Or.inl ⟨by rfl, ?_⟩) ?_ ?_
  rotate_left
  · intro w'; go_simp; with_reducible rfl
  rotate_left
  · simp only [Act.put, List.setIfInBounds_toArray, List.set_cons_zero, List.set_cons_succ, i64_w, i32_w]; rfl
  refine one_ (i := 5) (N := some 16) #[true, true, true, true, true, true, true, false, false, false] rfl rfl (by kernel_rfl) (by decide) (fun K hK => ?_)
  refine goes_ Tryz.func39 (by kernel_rfl) rfl #[.slice A8 s.2.1.length c8] (by rfl) rfl rfl (by first | (go_simp; done) | (go_simp; rfl)) ?_
  refine (slices_Clone_bool_bool.calls _ _ _ s.2.1 _ S7.r8 S7.k8 (by unfold slices_Clone_bool_bool.f; rw [if_pos (by have := hz.l; have := hz.m; omega)])).mono ?_
  rintro e w8 ⟨u1, rfl, ho1, hb8⟩
  have R1 := Kd.R_lower ho1 hB7.size
  replace R0 := Kd.R_below R0 hb8
  have B8 := blk_below B7 hb8
  have T8 := blk_below T7 hb8
  have hB8 := below_step hB7 hb8
  clear hb8 ho1
  refine ⟨_, rfl, ?_⟩
  refine hK.out _ _ (⟨(cells4 B8).1, (cells4 B8).2.1⟩) (fun hHeld => ?_)
  clear hK K
  refine norm_ (a' := ?_) ?_ ?_
  rotate_left
  · show Act.put _ (some 16) _ = _
    simp only [Act.put, List.setIfInBounds_toArray, List.set_cons_zero, List.set_cons_succ, i64_w, i32_w]; rfl
  obtain ⟨D0, k0, rfl⟩ := Kd.R_slice R0
  obtain ⟨D1, k1, rfl⟩ := Kd.R_slice R1
  refine last_ (i := 7) (N := none) #[true, true, true, true, true, true, true, true, false, false] rfl rfl (by kernel_rfl) (by decide) (fun K hK => ?_)
  have F := frozen4 B8
  have C := cells4 B8
  have E8 := one_facts (i := 0) (cs' := #[.slice D0 s.1.length k0, .slice A8 s.2.1.length c8, .int .i64 s.2.2.1, .bool s.2.2.2]) B8 (.slice D0 s.1.length k0) rfl
  refine skip_ (w1 := w8.setCell ⟨b, 0, none⟩ (.slice D0 s.1.length k0)) (by rfl) rfl (by first | (go_simp; done) | (go_simp; rfl)) ?_
  generalize w8.setCell ⟨b, 0, none⟩ (.slice D0 s.1.length k0) = w9 at E8 ⊢
  clear F C
  refine hK.out _ _ ?_
  clear hK K
  refine pure_ (i := 8) (N := some 18) (v := ?_) (a' := ?_) #[true, true, true, true, true, true, true, true, true, false] rfl rfl (by kernel_rfl) (fun _ _ _ h => h) (Or.inl ⟨by rfl, ?_⟩) ?_ ?_
  rotate_left
  · intro w'; go_simp; with_reducible rfl
  rotate_left
  · simp only [Act.put, List.setIfInBounds_toArray, List.set_cons_zero, List.set_cons_succ, i64_w, i32_w]; rfl
  refine last_ (i := 9) (N := none) #[true, true, true, true, true, true, true, true, true, true] rfl rfl (by kernel_rfl) (by decide) (fun K hK => ?_)
  have F := frozen4 E8.1
  have C := cells4 E8.1
  have E9 := one_facts (i := 1) (cs' := #[.slice D0 s.1.length k0, .slice D1 s.2.1.length k1, .int .i64 s.2.2.1, .bool s.2.2.2]) E8.1 (.slice D1 s.2.1.length k1) rfl
  refine skip_ (w1 := w9.setCell ⟨b, 1, none⟩ (.slice D1 s.2.1.length k1)) (by rfl) rfl (by first | (go_simp; done) | (go_simp; rfl)) ?_
  generalize w9.setCell ⟨b, 1, none⟩ (.slice D1 s.2.1.length k1) = w10 at E9 ⊢
  clear F C
  refine hK.out _ _ ?_
  clear hK K
  refine done_ (by kernel_rfl) ?_
  have T10 := (E9.2.1 w.heap.size (by omega)).trans ((E8.2.1 w.heap.size (by omega)).trans T8)
  have hk := fun k (h : k ≠ b) => (E9.2.1 k h).trans (E8.2.1 k h)
  have hB10 := E9.2.2 _ _ (E8.2.2 _ _ hB8 (by omega)) (by omega)
  have c10 := cells4 E9.1
  have t10 := cells4 T10
  have f10 := frozen4 T10
  have R0' := R_of_heap R0 B8 (by decide) hk
  have R1' := R_of_heap R1 B8 (by decide) hk
  clear R0 R1 hk E8
  go_wp2_with (first
    | ((with_reducible refine gate_store (t := 57) (p := 2) (v := .tmp 19) rfl ?_); go_must (refine store_event (w1 := put4 w10 w.heap.size (.slice D0 s.1.length k0) (.slice D1 s.2.1.length k1) (.int .i64 s.2.2.1) (.bool s.2.2.2)) (by rfl) (by rfl) (by rfl) ?hr ?_; (case hr => first | (go_simp; done) | (go_simp; rfl)); intro w11 h_; have F11 := put4_facts T10 (.slice D0 s.1.length k0) (.slice D1 s.2.1.length k1) (.int .i64 s.2.2.1) (.bool s.2.2.2); rw [← h_] at F11; clear h_)))
  refine bodyPost_ret (results_cell_row rfl _ _ w.heap.size 57 #[.slice D0 s.1.length k0, .slice D1 s.2.1.length k1, .int .i64 s.2.2.1, .bool s.2.2.2] (0, 0) _ rfl F11.1 Tryz.underlying57 rfl (by kernel_rfl)) rfl ?_
  exact ⟨_, _, rfl, R_of_heap R0' T10 (by decide) F11.2.1, R_of_heap R1' T10 (by decide) F11.2.1, F11.2.2 _ _ hB10 (Nat.le_refl _)⟩
set_option maxHeartbeats 8000000 in
set_option maxRecDepth 1000000 in
theorem log_calls {own : Nat → Prop} {w : World} {base g : Nat} {P : Puz} {v2 v3 v4 v5 v6 vs vl vo : Value} {sh : List Sht} {log on : List Act3} (hs : SesV own w base g P v2 v3 v4 v5 v6 vs vl vo sh log on) (hl : log.length ≤ 1048576) :
    Calls Tryz.prog 16 #[.pointer (some ⟨g, 0, none⟩)] w fun e w' => ∃ u, e = .returned u ∧ Kd.R kAct 35 w' w.heap.size (fun _ => True) u log ∧ Below w.heap.size w w' := by
  obtain ⟨Al, cl, rfl, hk, hC⟩ := Kd.R_reads hs.rl
  have c0 := cells11 hs.blk
  replace hC := Lib.hid hC
  replace hk := Lib.hid hk
  clear hs
  go_enter Tryz.func16, Tryz.ntmps16
  go_wp2_with (go_at_call 35; go_must (refine (cloneA_calls hC.out hk.out (by omega)).mono ?_; rintro e w3 ⟨u, rfl, hr, hb⟩))
  go_ret
  exact ⟨_, rfl, hr, hb⟩
set_option maxHeartbeats 8000000 in
set_option maxRecDepth 1000000 in
theorem on_calls {own : Nat → Prop} {w : World} {base g : Nat} {P : Puz} {v2 v3 v4 v5 v6 vs vl vo : Value} {sh : List Sht} {log on : List Act3} (hs : SesV own w base g P v2 v3 v4 v5 v6 vs vl vo sh log on) :
    Calls Tryz.prog 20 #[.pointer (some ⟨g, 0, none⟩)] w fun e w' => e = .returned (.int .i64 on.length) ∧ Below w.heap.size w w' := by
  obtain ⟨Ao, co, rfl, hk, hC⟩ := Kd.R_reads hs.ro
  have c0 := cells11 hs.blk
  clear hs hC
  go_enter Tryz.func20, Tryz.ntmps20
  go_wp2
  go_ret
  exact ⟨rfl, Below.refl _ _⟩
end Go.Proofs.YtjopbfidjapmbaaGreatDoor.Q
end
section
namespace Go.Proofs.YtjopbfidjapmbaaGreatDoor.Q
open Go.RowKit Go.Proofs.YtjopbfidjapmbaaGreatDoorW.PrintWords Go.Proofs.YtjopbfidjapmbaaGreatDoorW.PrintLast Go.Proofs.YtjopbfidjapmbaaGreatDoorW.PrintMore
set_option linter.unusedVariables false
set_option linter.unusedSimpArgs false
open Go.Proofs.YtjopbfidjapmbaaGreatDoorS
set_option maxHeartbeats 8000000 in
set_option maxRecDepth 1000000 in
theorem act_calls {own : Nat → Prop} {w : World} {base g : Nat} {P : Puz} {v2 v3 v4 v5 v6 vs vl vo : Value} {sh : List Sht} {log on : List Act3} {a : Act3} (hT : Tabs w) (hs : SesV own w base g P v2 v3 v4 v5 v6 vs vl vo sh log on) (h1 : 0 < sh.length) (hl : sh.length ≤ 1000000) (hl2 : log.length ≤ 1000000) (hz : PuzS P.t P.cells P.clues) (hzs : Small (topOf sh).1) (hzt : a.f2.size ≤ 1048576) :
    Calls Tryz.prog 31 #[.pointer (some ⟨g, 0, none⟩), .agg #[.int .i64 a.f0, .int .i64 a.f1, .string a.f2]] w fun e w' => e = .returned (.int .i64 (sAct P ⟨sh, log, on⟩ a).2) ∧ SesOut own w base g P (sAct P ⟨sh, log, on⟩ a).1 w' := by
  obtain ⟨A2, c2, A3, c3, A4, c4, A5, c5, A6, c6, rfl, rfl, rfl, rfl, rfl, hP⟩ := hs.puz
  obtain ⟨As, cs, rfl, _, hC⟩ := Kd.R_reads hs.rs
  obtain ⟨V, hV⟩ : ∃ V, sAct P ⟨sh, log, on⟩ a = V := ⟨_, rfl⟩
  have hv : V = if (doP P (topOf sh) a).2 = 0 then (⟨sh ++ [(doP P (topOf sh) a).1], log ++ [a], on⟩, 0) else (⟨sh, log, on⟩, (doP P (topOf sh) a).2) := by rw [← hV]; rfl
  rw [hV]
  clear hV
  obtain ⟨s, hs0⟩ : ∃ s, topOf sh = s := ⟨_, rfl⟩
  have tk := fun (w1 : World) => @topS_calls w1 g 8 cs As sh
  rw [hs0] at hzs tk hv
  clear hs0
  obtain ⟨r, hr⟩ : ∃ r, doOf P.t P.H P.W P.bl P.ri P.be P.cells P.clues s.1 s.2.1 s.2.2.1 s.2.2.2 a.f0 a.f1 a.f2 = r := ⟨_, rfl⟩
  have hd : doP P s a = ((r.1, r.2.1, r.2.2.1, r.2.2.2.1), r.2.2.2.2) := by rw [← hr]; rfl
  rw [hd] at hv
  clear hd
  replace hr := Lib.hid hr
  replace hv := Lib.hid hv
  have hbs : base ≤ w.heap.size := Nat.le_trans hs.ge (Nat.le_of_lt (blk_lt hs.blk))
  have hgl := blk_lt hs.blk
  go_enter Tryz.func31, Tryz.ntmps31
  go_wp2
  have X1 := blk_drew (blk_new w (.cells #[.int .i64 a.f0, .int .i64 a.f1, .string a.f2] 35))
  have hB1 := below_drew (below_alloc (Below.refl w.heap.size w) (.cells #[.int .i64 a.f0, .int .i64 a.f1, .string a.f2] 35))
  have G1 := blk_below hs.blk hB1
  have C1 := Kd.C_below hC hB1
  have P1 := hP.below hB1
  have T1 := tabs_below hT hB1
  clear hC hP
  refine start_ (n := 16) (S := fun w' => w'.heap[g]? = some (.cells #[.string P.t, .int .i64 P.H, .int .i64 P.W, .slice A2 P.bl.length c2, .slice A3 P.ri.length c3, .slice A4 P.be.length c4, .slice A5 P.cells.length c5, .slice A6 P.clues.length c6, .slice As sh.length cs, vl, vo] 85 (0, 0)) ∧ w'.heap[w.heap.size]? = some (.cells #[.int .i64 a.f0, .int .i64 a.f1, .string a.f2] 35 (0, 0))) (ds := []) #[false, false, false, false, false, false, false, false, false, false, false, false, false, false, false, false] (by kernel_rfl) rfl rfl (⟨G1, X1⟩) (fun hHeld => ?_)
  generalize (w.alloc (.cells #[.int .i64 a.f0, .int .i64 a.f1, .string a.f2] 35)).drew = w1 at X1 hB1 G1 C1 P1 T1 hHeld ⊢
  refine pure_ (i := 0) (N := some 8) (v := ?_) (a' := ?_) #[true, false, false, false, false, false, false, false, false, false, false, false, false, false, false, false] rfl rfl (by kernel_rfl) (fun _ _ _ h => h) (Or.inl ⟨by rfl, ?_⟩) ?_ ?_
  rotate_left
  · intro w'; go_simp; with_reducible rfl
  rotate_left
  · simp only [Act.put, List.setIfInBounds_toArray, List.set_cons_zero, List.set_cons_succ, i64_w, i32_w]; rfl
  refine pure_ (i := 1) (N := some 9) (v := ?_) (a' := ?_) #[true, true, false, false, false, false, false, false, false, false, false, false, false, false, false, false] rfl rfl (by kernel_rfl) (fun _ _ _ h => h) (Or.inl ⟨by rfl, ?_⟩) ?_ ?_
  rotate_left
  · intro w'; go_simp; with_reducible rfl
  rotate_left
  · simp only [Act.put, List.setIfInBounds_toArray, List.set_cons_zero, List.set_cons_succ, i64_w, i32_w]; rfl
  refine pure_ (i := 2) (N := some 10) (v := ?_) (a' := ?_) #[true, true, true, false, false, false, false, false, false, false, false, false, false, false, false, false] rfl rfl (by kernel_rfl) (fun _ _ _ h => h) (Or.inl ⟨by rfl, ?_⟩) ?_ ?_
  rotate_left
  · intro w'; go_simp; with_reducible rfl
  rotate_left
  · simp only [Act.put, List.setIfInBounds_toArray, List.set_cons_zero, List.set_cons_succ, i64_w, i32_w]; rfl
  refine pure_ (i := 4) (N := some 12) (v := ?_) (a' := ?_) #[true, true, true, false, true, false, false, false, false, false, false, false, false, false, false, false] rfl rfl (by kernel_rfl) (fun _ _ _ h => h) (Or.inl ⟨by rfl, ?_⟩) ?_ ?_
  rotate_left
  · intro w'; go_simp; with_reducible rfl
  rotate_left
  · simp only [Act.put, List.setIfInBounds_toArray, List.set_cons_zero, List.set_cons_succ, i64_w, i32_w]; rfl
  refine pure_ (i := 5) (N := some 13) (v := ?_) (a' := ?_) #[true, true, true, false, true, true, false, false, false, false, false, false, false, false, false, false] rfl rfl (by kernel_rfl) (fun _ _ _ h => h) (Or.inl ⟨by rfl, ?_⟩) ?_ ?_
  rotate_left
  · intro w'; go_simp; with_reducible rfl
  rotate_left
  · simp only [Act.put, List.setIfInBounds_toArray, List.set_cons_zero, List.set_cons_succ, i64_w, i32_w]; rfl
  refine pure_ (i := 6) (N := some 14) (v := ?_) (a' := ?_) #[true, true, true, false, true, true, true, false, false, false, false, false, false, false, false, false] rfl rfl (by kernel_rfl) (fun _ _ _ h => h) (Or.inl ⟨by rfl, ?_⟩) ?_ ?_
  rotate_left
  · intro w'; go_simp; with_reducible rfl
  rotate_left
  · simp only [Act.put, List.setIfInBounds_toArray, List.set_cons_zero, List.set_cons_succ, i64_w, i32_w]; rfl
  refine take_ (i := 3) (N := some 11) (v := ?_) (a' := ?_) #[true, true, true, true, true, true, true, false, false, false, false, false, false, false, false, false] rfl rfl (by kernel_rfl) (fun _ _ _ h => h) (Or.inl ⟨by rfl, ?_⟩) hHeld ?_ ?_
  rotate_left
  · rintro w' ⟨s0, s1⟩; have q0 := cells11 s0; have q1 := cells3 s1; clear s0 s1; go_simp; with_reducible rfl
  rotate_left
  · simp only [Act.put, List.setIfInBounds_toArray, List.set_cons_zero, List.set_cons_succ, i64_w, i32_w]; rfl
  refine take_ (i := 8) (N := some 16) (v := ?_) (a' := ?_) #[true, true, true, true, true, true, true, false, true, false, false, false, false, false, false, false] rfl rfl (by kernel_rfl) (fun _ _ _ h => h) (Or.inl ⟨by rfl, ?_⟩) hHeld ?_ ?_
  rotate_left
  · rintro w' ⟨s0, s1⟩; have q0 := cells11 s0; have q1 := cells3 s1; clear s0 s1; go_simp; with_reducible rfl
  rotate_left
  · simp only [Act.put, List.setIfInBounds_toArray, List.set_cons_zero, List.set_cons_succ, i64_w, i32_w]; rfl
  refine join_ (σ := Value × Value × Value × Nat) 2 #[true, true, true, true, true, true, true, true, true, true, true, true, true, true, false, false] (fun s => [(15, s.1), (17, .tuple #[.agg #[s.2.1, s.2.2.1, .int .i64 r.2.2.1, .bool r.2.2.2.1], .int .i64 r.2.2.2.2]), (7, .tuple #[.agg #[s.2.1, s.2.2.1, .int .i64 r.2.2.1, .bool r.2.2.2.1], .int .i64 r.2.2.2.2]), (18, .agg #[s.2.1, s.2.2.1, .int .i64 r.2.2.1, .bool r.2.2.2.1]), (19, .int .i64 r.2.2.2.2), (5, .pointer (some ⟨s.2.2.2, 0, none⟩))]) (fun s w' => Below w.heap.size w w' ∧ w'.heap[w.heap.size]? = some (.cells #[.int .i64 a.f0, .int .i64 a.f1, .string a.f2] 35 (0, 0)) ∧ w.heap.size < s.2.2.2 ∧ w'.heap[s.2.2.2]? = some (.cells #[.slice none 0 0, .slice none 0 0, .int .i64 0, .bool false] 57 (0, 0)) ∧ Kd.R Kd.string 9 w' w.heap.size (fun _ => True) s.2.1 r.1 ∧ Kd.R Kd.bool 4 w' w.heap.size (fun _ => True) s.2.2.1 r.2.1) ?_ ?_
  rotate_left
  · intro hCont
    have hB_ := hB1
    have G_ := G1
    have X_ := X1
    have C_ := C1
    have P_ := P1
    have T_ := T1
    clear hB1 G1 X1 C1 P1 T1
    refine two_ (i := 7) (j := 13) (Ni := some 15) (Nj := some 5) #[true, true, true, true, true, true, true, true, true, false, false, false, false, false, false, false] #[true, true, true, true, true, true, true, false, true, false, false, false, false, true, false, false] rfl rfl rfl rfl (by kernel_rfl) (by decide) (by decide) (fun K hK => ?_) (fun K hK => ?_)
    · skip
      refine goes_ Tryz.func37 (by kernel_rfl) rfl #[.pointer (some ⟨g, 8, none⟩)] (by rfl) rfl rfl (by first | (go_simp; done) | (go_simp; rfl)) ?_
      refine (tk _ (cells11 G_).2.2.2.2.2.2.2.2.1 C_ h1 (by omega)).mono ?_
      rintro e wx1 ⟨A7, c7, A8, c8, rfl, hS, hb⟩
      refine ⟨_, rfl, ?_⟩
      replace hB_ := below_step hB_ hb
      replace G_ := blk_below G_ hb
      replace X_ := blk_below X_ hb
      replace C_ := Kd.C_below C_ hb
      replace P_ := P_.below hb
      replace T_ := tabs_below T_ hb
      clear hb
      refine hK.out _ _ (⟨G_, X_⟩) (fun hHeld => ?_)
      clear hK K
      refine norm_ (a' := ?_) ?_ ?_
      rotate_left
      · show Act.put _ (some 15) _ = _
        simp only [Act.put, List.setIfInBounds_toArray, List.set_cons_zero, List.set_cons_succ, i64_w, i32_w]; rfl
      refine two_ (i := 9) (j := 13) (Ni := some 17) (Nj := some 5) #[true, true, true, true, true, true, true, true, true, true, false, false, false, false, false, false] #[true, true, true, true, true, true, true, true, true, false, false, false, false, true, false, false] rfl rfl rfl rfl (by kernel_rfl) (by decide) (by decide) (fun K hK => ?_) (fun K hK => ?_)
      · skip
        refine goes_ Tryz.func51 (by kernel_rfl) rfl #[.agg #[.string P.t, .int .i64 P.H, .int .i64 P.W, .slice A2 P.bl.length c2, .slice A3 P.ri.length c3, .slice A4 P.be.length c4, .slice A5 P.cells.length c5, .slice A6 P.clues.length c6], .agg #[.slice A7 s.1.length c7, .slice A8 s.2.1.length c8, .int .i64 s.2.2.1, .bool s.2.2.2], .agg #[.int .i64 a.f0, .int .i64 a.f1, .string a.f2]] (by rfl) rfl rfl (by first | (go_simp; done) | (go_simp; rfl)) ?_
        refine (sheet_Do.calls T_ P_ hS hz hzs hzt).mono ?_
        rw [hr.out]
        rintro e wx2 ⟨u0, u1, rfl, ho0, ho1, hb⟩
        refine ⟨_, rfl, ?_⟩
        have R0 := Kd.R_lower ho0 hB_.size
        have R1 := Kd.R_lower ho1 hB_.size
        clear ho0 ho1
        replace hB_ := below_step hB_ hb
        replace G_ := blk_below G_ hb
        replace X_ := blk_below X_ hb
        replace C_ := Kd.C_below C_ hb
        replace P_ := P_.below hb
        replace T_ := tabs_below T_ hb
        replace hS := hS.below hb
        clear hb
        refine hK.out _ _ (⟨G_, X_⟩) (fun hHeld => ?_)
        clear hK K
        refine norm_ (a' := ?_) ?_ ?_
        rotate_left
        · show Act.put _ (some 17) _ = _
          simp only [Act.put, List.setIfInBounds_toArray, List.set_cons_zero, List.set_cons_succ, i64_w, i32_w]; rfl
        refine pure_ (i := 10) (N := some 7) (v := ?_) (a' := ?_) #[true, true, true, true, true, true, true, true, true, true, true, false, false, false, false, false] rfl rfl (by kernel_rfl) (fun _ _ _ h => h) (Or.inl ⟨by rfl, ?_⟩) ?_ ?_
        rotate_left
        · intro w'; go_simp; with_reducible rfl
        rotate_left
        · simp only [Act.put, List.setIfInBounds_toArray, List.set_cons_zero, List.set_cons_succ, i64_w, i32_w]; rfl
        refine pure_ (i := 11) (N := some 18) (v := ?_) (a' := ?_) #[true, true, true, true, true, true, true, true, true, true, true, true, false, false, false, false] rfl rfl (by kernel_rfl) (fun _ _ _ h => h) (Or.inl ⟨by rfl, ?_⟩) ?_ ?_
        rotate_left
        · intro w'; go_simp; with_reducible rfl
        rotate_left
        · simp only [Act.put, List.setIfInBounds_toArray, List.set_cons_zero, List.set_cons_succ, i64_w, i32_w]; rfl
        refine pure_ (i := 12) (N := some 19) (v := ?_) (a' := ?_) #[true, true, true, true, true, true, true, true, true, true, true, true, true, false, false, false] rfl rfl (by kernel_rfl) (fun _ _ _ h => h) (Or.inl ⟨by rfl, ?_⟩) ?_ ?_
        rotate_left
        · intro w'; go_simp; with_reducible rfl
        rotate_left
        · simp only [Act.put, List.setIfInBounds_toArray, List.set_cons_zero, List.set_cons_succ, i64_w, i32_w]; rfl
        refine one_ (i := 13) (N := some 5) #[true, true, true, true, true, true, true, true, true, true, true, true, true, true, false, false] rfl rfl (by kernel_rfl) (by decide) (fun K hK => ?_)
        refine value_ (w1 := wx2.alloc (.cells #[.slice none 0 0, .slice none 0 0, .int .i64 0, .bool false] 57)) (v := .pointer (some ⟨wx2.heap.size, 0, none⟩)) (by rfl) rfl (by first | (go_simp; done) | (go_simp; rfl)) ?_
        have hb := below_alloc (Below.refl wx2.heap.size wx2) (.cells #[.slice none 0 0, .slice none 0 0, .int .i64 0, .bool false] 57)
        have Z_ := blk_new wx2 (.cells #[.slice none 0 0, .slice none 0 0, .int .i64 0, .bool false] 57)
        have ltb : w.heap.size < wx2.heap.size := blk_lt X_
        obtain ⟨b5, hb5⟩ : ∃ b5, wx2.heap.size = b5 := ⟨_, rfl⟩
        rw [hb5] at Z_ ltb
        generalize wx2.alloc (.cells #[.slice none 0 0, .slice none 0 0, .int .i64 0, .bool false] 57) = wx3 at hb Z_ ⊢
        rw [hb5]
        replace hB_ := below_step hB_ hb
        replace G_ := blk_below G_ hb
        replace X_ := blk_below X_ hb
        replace C_ := Kd.C_below C_ hb
        replace P_ := P_.below hb
        replace T_ := tabs_below T_ hb
        replace R0 := Kd.R_below R0 hb
        replace R1 := Kd.R_below R1 hb
        replace hS := hS.below hb
        clear hb
        refine hK.out _ _ (⟨G_, X_⟩) (fun hHeld => ?_)
        clear hK K
        refine norm_ (a' := ?_) ?_ ?_
        rotate_left
        · show Act.put _ (some 5) _ = _
          simp only [Act.put, List.setIfInBounds_toArray, List.set_cons_zero, List.set_cons_succ, i64_w, i32_w]; rfl
        exact norm_ (by simp only [putAll, Act.put, List.setIfInBounds_toArray, List.set_cons_zero, List.set_cons_succ]) (hCont (.agg #[.slice A7 s.1.length c7, .slice A8 s.2.1.length c8, .int .i64 s.2.2.1, .bool s.2.2.2], u0, u1, b5) _ ⟨hB_, X_, ltb, Z_, R0, R1⟩)
      · skip
        refine value_ (w1 := wx1.alloc (.cells #[.slice none 0 0, .slice none 0 0, .int .i64 0, .bool false] 57)) (v := .pointer (some ⟨wx1.heap.size, 0, none⟩)) (by rfl) rfl (by first | (go_simp; done) | (go_simp; rfl)) ?_
        have hb := below_alloc (Below.refl wx1.heap.size wx1) (.cells #[.slice none 0 0, .slice none 0 0, .int .i64 0, .bool false] 57)
        have Z_ := blk_new wx1 (.cells #[.slice none 0 0, .slice none 0 0, .int .i64 0, .bool false] 57)
        have ltb : w.heap.size < wx1.heap.size := blk_lt X_
        obtain ⟨b5, hb5⟩ : ∃ b5, wx1.heap.size = b5 := ⟨_, rfl⟩
        rw [hb5] at Z_ ltb
        generalize wx1.alloc (.cells #[.slice none 0 0, .slice none 0 0, .int .i64 0, .bool false] 57) = wx4 at hb Z_ ⊢
        rw [hb5]
        replace hB_ := below_step hB_ hb
        replace G_ := blk_below G_ hb
        replace X_ := blk_below X_ hb
        replace C_ := Kd.C_below C_ hb
        replace P_ := P_.below hb
        replace T_ := tabs_below T_ hb
        replace hS := hS.below hb
        clear hb
        refine hK.out _ _ (⟨G_, X_⟩) (fun hHeld => ?_)
        clear hK K
        refine norm_ (a' := ?_) ?_ ?_
        rotate_left
        · show Act.put _ (some 5) _ = _
          simp only [Act.put, List.setIfInBounds_toArray, List.set_cons_zero, List.set_cons_succ, i64_w, i32_w]; rfl
        refine one_ (i := 9) (N := some 17) #[true, true, true, true, true, true, true, true, true, true, false, false, false, true, false, false] rfl rfl (by kernel_rfl) (by decide) (fun K hK => ?_)
        refine goes_ Tryz.func51 (by kernel_rfl) rfl #[.agg #[.string P.t, .int .i64 P.H, .int .i64 P.W, .slice A2 P.bl.length c2, .slice A3 P.ri.length c3, .slice A4 P.be.length c4, .slice A5 P.cells.length c5, .slice A6 P.clues.length c6], .agg #[.slice A7 s.1.length c7, .slice A8 s.2.1.length c8, .int .i64 s.2.2.1, .bool s.2.2.2], .agg #[.int .i64 a.f0, .int .i64 a.f1, .string a.f2]] (by rfl) rfl rfl (by first | (go_simp; done) | (go_simp; rfl)) ?_
        refine (sheet_Do.calls T_ P_ hS hz hzs hzt).mono ?_
        rw [hr.out]
        rintro e wx5 ⟨u0, u1, rfl, ho0, ho1, hb⟩
        refine ⟨_, rfl, ?_⟩
        have R0 := Kd.R_lower ho0 hB_.size
        have R1 := Kd.R_lower ho1 hB_.size
        clear ho0 ho1
        replace hB_ := below_step hB_ hb
        replace G_ := blk_below G_ hb
        replace X_ := blk_below X_ hb
        replace C_ := Kd.C_below C_ hb
        replace P_ := P_.below hb
        replace T_ := tabs_below T_ hb
        replace hS := hS.below hb
        replace Z_ := blk_below Z_ hb
        clear hb
        refine hK.out _ _ (⟨G_, X_⟩) (fun hHeld => ?_)
        clear hK K
        refine norm_ (a' := ?_) ?_ ?_
        rotate_left
        · show Act.put _ (some 17) _ = _
          simp only [Act.put, List.setIfInBounds_toArray, List.set_cons_zero, List.set_cons_succ, i64_w, i32_w]; rfl
        refine pure_ (i := 10) (N := some 7) (v := ?_) (a' := ?_) #[true, true, true, true, true, true, true, true, true, true, true, false, false, true, false, false] rfl rfl (by kernel_rfl) (fun _ _ _ h => h) (Or.inl ⟨by rfl, ?_⟩) ?_ ?_
        rotate_left
        · intro w'; go_simp; with_reducible rfl
        rotate_left
        · simp only [Act.put, List.setIfInBounds_toArray, List.set_cons_zero, List.set_cons_succ, i64_w, i32_w]; rfl
        refine pure_ (i := 11) (N := some 18) (v := ?_) (a' := ?_) #[true, true, true, true, true, true, true, true, true, true, true, true, false, true, false, false] rfl rfl (by kernel_rfl) (fun _ _ _ h => h) (Or.inl ⟨by rfl, ?_⟩) ?_ ?_
        rotate_left
        · intro w'; go_simp; with_reducible rfl
        rotate_left
        · simp only [Act.put, List.setIfInBounds_toArray, List.set_cons_zero, List.set_cons_succ, i64_w, i32_w]; rfl
        refine pure_ (i := 12) (N := some 19) (v := ?_) (a' := ?_) #[true, true, true, true, true, true, true, true, true, true, true, true, true, true, false, false] rfl rfl (by kernel_rfl) (fun _ _ _ h => h) (Or.inl ⟨by rfl, ?_⟩) ?_ ?_
        rotate_left
        · intro w'; go_simp; with_reducible rfl
        rotate_left
        · simp only [Act.put, List.setIfInBounds_toArray, List.set_cons_zero, List.set_cons_succ, i64_w, i32_w]; rfl
        exact norm_ (by simp only [putAll, Act.put, List.setIfInBounds_toArray, List.set_cons_zero, List.set_cons_succ]) (hCont (.agg #[.slice A7 s.1.length c7, .slice A8 s.2.1.length c8, .int .i64 s.2.2.1, .bool s.2.2.2], u0, u1, b5) _ ⟨hB_, X_, ltb, Z_, R0, R1⟩)
    · skip
      refine value_ (w1 := w1.alloc (.cells #[.slice none 0 0, .slice none 0 0, .int .i64 0, .bool false] 57)) (v := .pointer (some ⟨w1.heap.size, 0, none⟩)) (by rfl) rfl (by first | (go_simp; done) | (go_simp; rfl)) ?_
      have hb := below_alloc (Below.refl w1.heap.size w1) (.cells #[.slice none 0 0, .slice none 0 0, .int .i64 0, .bool false] 57)
      have Z_ := blk_new w1 (.cells #[.slice none 0 0, .slice none 0 0, .int .i64 0, .bool false] 57)
      have ltb : w.heap.size < w1.heap.size := blk_lt X_
      obtain ⟨b5, hb5⟩ : ∃ b5, w1.heap.size = b5 := ⟨_, rfl⟩
      rw [hb5] at Z_ ltb
      generalize w1.alloc (.cells #[.slice none 0 0, .slice none 0 0, .int .i64 0, .bool false] 57) = wx6 at hb Z_ ⊢
      rw [hb5]
      replace hB_ := below_step hB_ hb
      replace G_ := blk_below G_ hb
      replace X_ := blk_below X_ hb
      replace C_ := Kd.C_below C_ hb
      replace P_ := P_.below hb
      replace T_ := tabs_below T_ hb
      clear hb
      refine hK.out _ _ (⟨G_, X_⟩) (fun hHeld => ?_)
      clear hK K
      refine norm_ (a' := ?_) ?_ ?_
      rotate_left
      · show Act.put _ (some 5) _ = _
        simp only [Act.put, List.setIfInBounds_toArray, List.set_cons_zero, List.set_cons_succ, i64_w, i32_w]; rfl
      refine one_ (i := 7) (N := some 15) #[true, true, true, true, true, true, true, true, true, false, false, false, false, true, false, false] rfl rfl (by kernel_rfl) (by decide) (fun K hK => ?_)
      refine goes_ Tryz.func37 (by kernel_rfl) rfl #[.pointer (some ⟨g, 8, none⟩)] (by rfl) rfl rfl (by first | (go_simp; done) | (go_simp; rfl)) ?_
      refine (tk _ (cells11 G_).2.2.2.2.2.2.2.2.1 C_ h1 (by omega)).mono ?_
      rintro e wx7 ⟨A7, c7, A8, c8, rfl, hS, hb⟩
      refine ⟨_, rfl, ?_⟩
      replace hB_ := below_step hB_ hb
      replace G_ := blk_below G_ hb
      replace X_ := blk_below X_ hb
      replace C_ := Kd.C_below C_ hb
      replace P_ := P_.below hb
      replace T_ := tabs_below T_ hb
      replace Z_ := blk_below Z_ hb
      clear hb
      refine hK.out _ _ (⟨G_, X_⟩) (fun hHeld => ?_)
      clear hK K
      refine norm_ (a' := ?_) ?_ ?_
      rotate_left
      · show Act.put _ (some 15) _ = _
        simp only [Act.put, List.setIfInBounds_toArray, List.set_cons_zero, List.set_cons_succ, i64_w, i32_w]; rfl
      refine one_ (i := 9) (N := some 17) #[true, true, true, true, true, true, true, true, true, true, false, false, false, true, false, false] rfl rfl (by kernel_rfl) (by decide) (fun K hK => ?_)
      refine goes_ Tryz.func51 (by kernel_rfl) rfl #[.agg #[.string P.t, .int .i64 P.H, .int .i64 P.W, .slice A2 P.bl.length c2, .slice A3 P.ri.length c3, .slice A4 P.be.length c4, .slice A5 P.cells.length c5, .slice A6 P.clues.length c6], .agg #[.slice A7 s.1.length c7, .slice A8 s.2.1.length c8, .int .i64 s.2.2.1, .bool s.2.2.2], .agg #[.int .i64 a.f0, .int .i64 a.f1, .string a.f2]] (by rfl) rfl rfl (by first | (go_simp; done) | (go_simp; rfl)) ?_
      refine (sheet_Do.calls T_ P_ hS hz hzs hzt).mono ?_
      rw [hr.out]
      rintro e wx8 ⟨u0, u1, rfl, ho0, ho1, hb⟩
      refine ⟨_, rfl, ?_⟩
      have R0 := Kd.R_lower ho0 hB_.size
      have R1 := Kd.R_lower ho1 hB_.size
      clear ho0 ho1
      replace hB_ := below_step hB_ hb
      replace G_ := blk_below G_ hb
      replace X_ := blk_below X_ hb
      replace C_ := Kd.C_below C_ hb
      replace P_ := P_.below hb
      replace T_ := tabs_below T_ hb
      replace hS := hS.below hb
      replace Z_ := blk_below Z_ hb
      clear hb
      refine hK.out _ _ (⟨G_, X_⟩) (fun hHeld => ?_)
      clear hK K
      refine norm_ (a' := ?_) ?_ ?_
      rotate_left
      · show Act.put _ (some 17) _ = _
        simp only [Act.put, List.setIfInBounds_toArray, List.set_cons_zero, List.set_cons_succ, i64_w, i32_w]; rfl
      refine pure_ (i := 10) (N := some 7) (v := ?_) (a' := ?_) #[true, true, true, true, true, true, true, true, true, true, true, false, false, true, false, false] rfl rfl (by kernel_rfl) (fun _ _ _ h => h) (Or.inl ⟨by rfl, ?_⟩) ?_ ?_
      rotate_left
      · intro w'; go_simp; with_reducible rfl
      rotate_left
      · simp only [Act.put, List.setIfInBounds_toArray, List.set_cons_zero, List.set_cons_succ, i64_w, i32_w]; rfl
      refine pure_ (i := 11) (N := some 18) (v := ?_) (a' := ?_) #[true, true, true, true, true, true, true, true, true, true, true, true, false, true, false, false] rfl rfl (by kernel_rfl) (fun _ _ _ h => h) (Or.inl ⟨by rfl, ?_⟩) ?_ ?_
      rotate_left
      · intro w'; go_simp; with_reducible rfl
      rotate_left
      · simp only [Act.put, List.setIfInBounds_toArray, List.set_cons_zero, List.set_cons_succ, i64_w, i32_w]; rfl
      refine pure_ (i := 12) (N := some 19) (v := ?_) (a' := ?_) #[true, true, true, true, true, true, true, true, true, true, true, true, true, true, false, false] rfl rfl (by kernel_rfl) (fun _ _ _ h => h) (Or.inl ⟨by rfl, ?_⟩) ?_ ?_
      rotate_left
      · intro w'; go_simp; with_reducible rfl
      rotate_left
      · simp only [Act.put, List.setIfInBounds_toArray, List.set_cons_zero, List.set_cons_succ, i64_w, i32_w]; rfl
      exact norm_ (by simp only [putAll, Act.put, List.setIfInBounds_toArray, List.set_cons_zero, List.set_cons_succ]) (hCont (.agg #[.slice A7 s.1.length c7, .slice A8 s.2.1.length c8, .int .i64 s.2.2.1, .bool s.2.2.2], u0, u1, b5) _ ⟨hB_, X_, ltb, Z_, R0, R1⟩)
  rintro ⟨vt, u0, u1, b5⟩ w6 ⟨hB6, X6, lt6, Z6, R0, R1⟩
  replace hB6 : Below w.heap.size w w6 := hB6
  replace lt6 : w.heap.size < b5 := lt6
  replace Z6 : w6.heap[b5]? = some (.cells #[.slice none 0 0, .slice none 0 0, .int .i64 0, .bool false] 57 (0, 0)) := Z6
  replace R0 : Kd.R Kd.string 9 w6 w.heap.size (fun _ => True) u0 r.1 := R0
  replace R1 : Kd.R Kd.bool 4 w6 w.heap.size (fun _ => True) u1 r.2.1 := R1
  have G6 := blk_below hs.blk hB6
  refine norm_ (a' := ?_) ?_ ?_
  rotate_left
  · simp only [putAll, Act.put, List.setIfInBounds_toArray, List.set_cons_zero, List.set_cons_succ]
    rfl
  have hHeld : (fun w' => w'.heap[g]? = some (.cells #[.string P.t, .int .i64 P.H, .int .i64 P.W, .slice A2 P.bl.length c2, .slice A3 P.ri.length c3, .slice A4 P.be.length c4, .slice A5 P.cells.length c5, .slice A6 P.clues.length c6, .slice As sh.length cs, vl, vo] 85 (0, 0)) ∧ w'.heap[w.heap.size]? = some (.cells #[.int .i64 a.f0, .int .i64 a.f1, .string a.f2] 35 (0, 0))) w6 := ⟨G6, X6⟩
  refine one_ (i := 14) (N := none) #[true, true, true, true, true, true, true, true, true, true, true, true, true, true, true, false] rfl rfl (by kernel_rfl) (by decide) (fun K hK => ?_)
  have c6 := cells4 Z6
  have f6 := frozen4 Z6
  have F6 := put4_facts Z6 u0 u1 (.int .i64 r.2.2.1) (.bool r.2.2.2.1)
  obtain ⟨D0, k0, rfl⟩ := Kd.R_slice R0
  obtain ⟨D1, k1, rfl⟩ := Kd.R_slice R1
  refine skip_ (w1 := put4 w6 b5 (.slice D0 r.1.length k0) (.slice D1 r.2.1.length k1) (.int .i64 r.2.2.1) (.bool r.2.2.2.1)) (by rfl) rfl (by first | (go_simp; done) | (go_simp; rfl)) ?_
  generalize put4 w6 b5 (.slice D0 r.1.length k0) (.slice D1 r.2.1.length k1) (.int .i64 r.2.2.1) (.bool r.2.2.2.1) = w7 at F6 ⊢
  have Z7 := F6.1
  have G7 := (F6.2.1 g (by omega)).trans G6
  have X7 := (F6.2.1 w.heap.size (by omega)).trans X6
  have hB7 := F6.2.2 _ _ hB6 (by omega)
  have R0' := R_of_heap R0 Z6 (by decide) F6.2.1
  have R1' := R_of_heap R1 Z6 (by decide) F6.2.1
  clear F6 c6 f6 R0 R1
  refine hK.out _ _ (⟨G7, X7⟩) (fun hHeld => ?_)
  clear hK K
  refine pure_ (i := 15) (N := some 6) (v := ?_) (a' := ?_) #[true, true, true, true, true, true, true, true, true, true, true, true, true, true, true, true] rfl rfl (by kernel_rfl) (fun _ _ _ h => h) (Or.inl ⟨by rfl, ?_⟩) ?_ ?_
  rotate_left
  · intro w'; go_simp; with_reducible rfl
  rotate_left
  · simp only [Act.put, List.setIfInBounds_toArray, List.set_cons_zero, List.set_cons_succ, i64_w, i32_w]; rfl
  refine done_ (by kernel_rfl) ?_
  clear G6 X6 Z6 hB6 hHeld
  have S7 := hs.below hB7
  by_cases he : r.2.2.2.2 = 0
  · have hE : V = (⟨sh ++ [(r.1, r.2.1, r.2.2.1, r.2.2.2.1)], log ++ [a], on⟩, 0) := by rw [hv.out]; exact if_pos he
    rw [he]
    clear hv hr he
    go_wp2
    refine start_ (n := 5) (S := fun w' => w'.heap[b5]? = some (.cells #[.slice D0 r.1.length k0, .slice D1 r.2.1.length k1, .int .i64 r.2.2.1, .bool r.2.2.2.1] 57 (0, 0))) (ds := [4]) #[false, false, false, false, false] (by kernel_rfl) rfl rfl (blk_drew Z7) (fun hHeld => ?_)
    replace Z7 := blk_drew Z7
    replace X7 := blk_drew X7
    replace S7 := S7.below (below_drew (Below.refl _ _))
    replace hB7 := below_drew hB7
    replace R0' := Kd.R_drew R0'
    replace R1' := Kd.R_drew R1'
    generalize w7.drew = w8 at Z7 X7 S7 hB7 R0' R1' hHeld ⊢
    refine pure_ (i := 0) (N := some 22) (v := ?_) (a' := ?_) #[true, false, false, false, false] rfl rfl (by kernel_rfl) (fun _ _ _ h => h) (Or.inl ⟨by rfl, ?_⟩) ?_ ?_
    rotate_left
    · intro w'; go_simp; with_reducible rfl
    rotate_left
    · simp only [Act.put, List.setIfInBounds_toArray, List.set_cons_zero, List.set_cons_succ, i64_w, i32_w]; rfl
    refine pure_ (i := 1) (N := some 23) (v := ?_) (a' := ?_) #[true, true, false, false, false] rfl rfl (by kernel_rfl) (fun _ _ _ h => h) (Or.inl ⟨by rfl, ?_⟩) ?_ ?_
    rotate_left
    · intro w'; go_simp; with_reducible rfl
    rotate_left
    · simp only [Act.put, List.setIfInBounds_toArray, List.set_cons_zero, List.set_cons_succ, i64_w, i32_w]; rfl
    refine pure_ (i := 2) (N := some 24) (v := ?_) (a' := ?_) #[true, true, true, false, false] rfl rfl (by kernel_rfl) (fun _ _ _ h => h) (Or.inl ⟨by rfl, ?_⟩) ?_ ?_
    rotate_left
    · intro w'; go_simp; with_reducible rfl
    rotate_left
    · simp only [Act.put, List.setIfInBounds_toArray, List.set_cons_zero, List.set_cons_succ, i64_w, i32_w]; rfl
    refine take_ (i := 3) (N := some 25) (v := ?_) (a' := ?_) #[true, true, true, true, false] rfl rfl (by kernel_rfl) (fun _ _ _ h => h) (Or.inl ⟨by rfl, ?_⟩) hHeld ?_ ?_
    rotate_left
    · rintro w' s0; have q0 := cells4 s0; clear s0; go_simp; with_reducible rfl
    rotate_left
    · simp only [Act.put, List.setIfInBounds_toArray, List.set_cons_zero, List.set_cons_succ, i64_w, i32_w]; rfl
    refine last_ (i := 4) (N := some 26) #[true, true, true, true, true] rfl rfl (by kernel_rfl) (by decide) (fun K hK => ?_)
    refine goes_ Tryz.func30 (by kernel_rfl) rfl #[.pointer (some ⟨g, 8, none⟩), .agg #[.slice D0 r.1.length k0, .slice D1 r.2.1.length k1, .int .i64 r.2.2.1, .bool r.2.2.2.1]] (by rfl) rfl rfl (by first | (go_simp; done) | (go_simp; rfl)) ?_
    have S8 := SesV.mono (own' := fun k => own k ∨ w.heap.size ≤ k) S7 (fun _ h => .inl h)
    refine (pushS_calls (x := (r.1, r.2.1, r.2.2.1, r.2.2.2.1)) (okp := fun k => w.heap.size ≤ k) S8.blk rfl S8.ge S8.rs (Kd.R_lower (Kd.R_mono (Kd.R_bound R0') (fun _ h => h.2.1)) hbs) (Kd.R_lower (Kd.R_mono (Kd.R_bound R1') (fun _ h => h.2.1)) hbs) (fun _ h => .inr h) (fun k h => .inr (Nat.le_trans hB7.size h)) (by omega)).mono ?_
    rintro e w9 ⟨rfl, vs9, G9, RS9, K9, hB9, _⟩
    refine ⟨_, rfl, ?_⟩
    have S9 := S8.pushS G9 RS9 K9
    have nv := Kd.R_ne S8.rs X7 (by decide)
    have X9 := blk_kept X7 K9 (by rintro (h | h); exact absurd h (by omega); exact nv h)
    have KK9 := (Kept.of_below hB7 own).then_ K9 (by rintro k (rfl | h); exact .inl hs.og; exact .inl (hs.rs.1 k h.symm))
    have hB19 := (hB7.mono hbs).trans hB9
    have hz9 := Nat.le_trans hB7.size K9.1
    clear S8 G9 RS9 K9 hB9 R0' R1' Z7 X7 S7 nv
    refine hK.out _ _ ?_
    clear hK K
    refine norm_ (a' := ?_) ?_ ?_
    rotate_left
    · show Act.put _ (some 26) _ = _
      simp only [Act.put, List.setIfInBounds_toArray, List.set_cons_zero, List.set_cons_succ, i64_w, i32_w]; rfl
    refine done_ (by kernel_rfl) ?_
    go_wp2
    refine start_ (n := 5) (S := fun w' => w'.heap[w.heap.size]? = some (.cells #[.int .i64 a.f0, .int .i64 a.f1, .string a.f2] 35 (0, 0))) (ds := [4]) #[false, false, false, false, false] (by kernel_rfl) rfl rfl (blk_drew X9) (fun hHeld => ?_)
    replace X9 := blk_drew X9
    replace S9 := S9.below (below_drew (Below.refl _ _))
    replace KK9 := KK9.drew
    replace hB19 := below_drew hB19
    replace hz9 : w.heap.size ≤ w9.drew.heap.size := hz9
    generalize w9.drew = w10 at X9 S9 KK9 hB19 hz9 hHeld ⊢
    refine pure_ (i := 0) (N := some 27) (v := ?_) (a' := ?_) #[true, false, false, false, false] rfl rfl (by kernel_rfl) (fun _ _ _ h => h) (Or.inl ⟨by rfl, ?_⟩) ?_ ?_
    rotate_left
    · intro w'; go_simp; with_reducible rfl
    rotate_left
    · simp only [Act.put, List.setIfInBounds_toArray, List.set_cons_zero, List.set_cons_succ, i64_w, i32_w]; rfl
    refine pure_ (i := 1) (N := some 28) (v := ?_) (a' := ?_) #[true, true, false, false, false] rfl rfl (by kernel_rfl) (fun _ _ _ h => h) (Or.inl ⟨by rfl, ?_⟩) ?_ ?_
    rotate_left
    · intro w'; go_simp; with_reducible rfl
    rotate_left
    · simp only [Act.put, List.setIfInBounds_toArray, List.set_cons_zero, List.set_cons_succ, i64_w, i32_w]; rfl
    refine pure_ (i := 2) (N := some 29) (v := ?_) (a' := ?_) #[true, true, true, false, false] rfl rfl (by kernel_rfl) (fun _ _ _ h => h) (Or.inl ⟨by rfl, ?_⟩) ?_ ?_
    rotate_left
    · intro w'; go_simp; with_reducible rfl
    rotate_left
    · simp only [Act.put, List.setIfInBounds_toArray, List.set_cons_zero, List.set_cons_succ, i64_w, i32_w]; rfl
    refine take_ (i := 3) (N := some 30) (v := ?_) (a' := ?_) #[true, true, true, true, false] rfl rfl (by kernel_rfl) (fun _ _ _ h => h) (Or.inl ⟨by rfl, ?_⟩) hHeld ?_ ?_
    rotate_left
    · rintro w' s0; have q0 := cells3 s0; clear s0; go_simp; with_reducible rfl
    rotate_left
    · simp only [Act.put, List.setIfInBounds_toArray, List.set_cons_zero, List.set_cons_succ, i64_w, i32_w]; rfl
    refine last_ (i := 4) (N := some 31) #[true, true, true, true, true] rfl rfl (by kernel_rfl) (by decide) (fun K hK => ?_)
    refine goes_ Tryz.func32 (by kernel_rfl) rfl #[.pointer (some ⟨g, 9, none⟩), .agg #[.int .i64 a.f0, .int .i64 a.f1, .string a.f2]] (by rfl) rfl rfl (by first | (go_simp; done) | (go_simp; rfl)) ?_
    refine (pushA_calls S9.blk rfl S9.ge S9.rl (fun k hk => ⟨.inr (Nat.le_trans hz9 hk), fun he => by obtain ⟨c_, hc_⟩ := Kd.R_typed S9.ro k he.symm; have := blk_lt hc_; omega⟩) (by omega)).mono ?_
    rintro e w11 ⟨rfl, vl11, G11, RL11, K11, hB11, hat11⟩
    refine ⟨_, rfl, ?_⟩
    have S11 := S9.pushL G11 RL11 K11 hat11
    have KK11 := KK9.then_ K11 (by rintro k (rfl | h); exact .inl hs.og; exact (S9.rl.1 k h.symm).1)
    have hB111 := hB19.trans hB11
    clear S9 G11 RL11 K11 hB11 hat11 KK9 hB19 X9
    refine hK.out _ _ ?_
    clear hK K
    refine norm_ (a' := ?_) ?_ ?_
    rotate_left
    · show Act.put _ (some 31) _ = _
      simp only [Act.put, List.setIfInBounds_toArray, List.set_cons_zero, List.set_cons_succ, i64_w, i32_w]; rfl
    refine done_ (by kernel_rfl) ?_
    go_wp2
    go_ret
    rw [hE]
    exact ⟨rfl, ⟨_, _, _, _, _, _, _, _, S11⟩, KK11, hB111⟩
  · have hE : V = (⟨sh, log, on⟩, r.2.2.2.2) := by rw [hv.out]; exact if_neg he
    have te : (r.2.2.2.2 == 0) = false := by simpa using he
    replace hE := Lib.hid hE
    clear hv hr he
    go_wp2
    go_ret
    rw [hE.out]
    exact ⟨rfl, SesOut.same hs hB7⟩
end Go.Proofs.YtjopbfidjapmbaaGreatDoor.Q
end
