/- PART 19 OF A PROOF: Lean functions, and that the program computes them; written by hand and by a program. Not trusted: Lean checks it. -/
import Derived.Test.YtjopbfidjapmbaaGreatDoorRa16
import Derived.Test.YtjopbfidjapmbaaGreatDoorRa18
set_option linter.unusedVariables false
set_option linter.unusedSimpArgs false
section
namespace Go.Proofs.YtjopbfidjapmbaaGreatDoor.Q
open Go.RowKit Go.Proofs.YtjopbfidjapmbaaGreatDoorW.PrintWords Go.Proofs.YtjopbfidjapmbaaGreatDoorW.PrintLast Go.Proofs.YtjopbfidjapmbaaGreatDoorW.PrintMore
set_option linter.unusedVariables false
set_option linter.unusedSimpArgs false
open Go.Proofs.YtjopbfidjapmbaaGreatDoorS
theorem SesOut.later {own : Nat → Prop} {w w1 w2 : World} {base g : Nat} {P : Puz} {S : SS} (hB : Below w.heap.size w w1) (hb : base ≤ w.heap.size) (h : SesOut own w1 base g P S w2) : SesOut own w base g P S w2 := by
  obtain ⟨⟨_, _, _, _, _, _, _, _, hs⟩, hk, hB2⟩ := h
  exact ⟨⟨_, _, _, _, _, _, _, _, hs.mono (fun k hk => hk.imp id (Nat.le_trans hB.size))⟩, (Kept.of_below hB own).then_ hk (fun _ h => .inl h), (hB.mono hb).trans hB2⟩
theorem SesOut.step {own : Nat → Prop} {w w1 w2 : World} {base g : Nat} {P : Puz} {S S2 : SS} {T : Nat → Prop} (h : SesOut own w base g P S w1) (h2 : Ses (fun k => own k ∨ w.heap.size ≤ k) w2 base g P S2) (hk : Kept w1 w2 T) (hT : ∀ k, T k → own k ∨ w.heap.size ≤ k) (hB : Below base w1 w2) : SesOut own w base g P S2 w2 :=
  ⟨h2, h.2.1.then_ hk hT, h.2.2.trans hB⟩
theorem R_fresh {α : Type} {d : Kd α} {e base : Nat} {ok : Nat → Prop} {w : World} {v : Value} {xs : List α} (h : d.R e w base ok v xs) (k : Nat) (hk : w.heap.size ≤ k) : some k ≠ v.ownBlock := fun he => by
  obtain ⟨c_, hc_⟩ := Kd.R_typed h k he.symm
  have := blk_lt hc_
  omega
set_option maxHeartbeats 8000000 in
set_option maxRecDepth 1000000 in
theorem do_calls {own : Nat → Prop} {w : World} {base g : Nat} {P : Puz} {v2 v3 v4 v5 v6 vs vl vo : Value} {sh : List Sht} {log on : List Act3} {a : Act3} (hT : Tabs w) (hs : SesV own w base g P v2 v3 v4 v5 v6 vs vl vo sh log on) (h1 : 0 < sh.length) (hl : sh.length ≤ 1000000) (hl2 : log.length ≤ 1000000) (hz : PuzS P.t P.cells P.clues) (hzs : Small (topOf sh).1) (hzt : a.f2.size ≤ 1048576) :
    Calls Tryz.prog 13 #[.pointer (some ⟨g, 0, none⟩), .agg #[.int .i64 a.f0, .int .i64 a.f1, .string a.f2]] w fun e w' => e = .returned (.int .i64 (sDo P ⟨sh, log, on⟩ a).2) ∧ SesOut own w base g P (sDo P ⟨sh, log, on⟩ a).1 w' := by
  obtain ⟨Al, cl, rfl, _, _⟩ := Kd.R_reads hs.rl
  have hbs : base ≤ w.heap.size := Nat.le_trans hs.ge (Nat.le_of_lt (blk_lt hs.blk))
  have X1 := blk_new w (.cells #[.int .i64 a.f0, .int .i64 a.f1, .string a.f2] 35)
  have hB1 := below_alloc (Below.refl w.heap.size w) (.cells #[.int .i64 a.f0, .int .i64 a.f1, .string a.f2] 35)
  have G1 := cells11 (blk_below hs.blk hB1)
  replace hB1 := Lib.hid hB1
  by_cases hn : 2000 ≤ log.length
  · have hE : sDo P ⟨sh, log, on⟩ a = (⟨sh, log, on⟩, 32) := if_pos hn
    rw [hE]
    have tn : decide (2000 ≤ (log.length : Int)) = true := decide_eq_true (by omega)
    have tn2 : decide ((log.length : Int) ≥ 2000) = true := decide_eq_true (by omega)
    clear hE
    go_enter Tryz.func13, Tryz.ntmps13
    go_wp2
    go_ret
    exact ⟨rfl, SesOut.same hs hB1.out⟩
  · have tn : decide (2000 ≤ (log.length : Int)) = false := decide_eq_false (by omega)
    have tn2 : decide ((log.length : Int) ≥ 2000) = false := decide_eq_false (by omega)
    obtain ⟨V, hV⟩ : ∃ V, sAct P ⟨sh, log, on⟩ a = V := ⟨_, rfl⟩
    have hE : sDo P ⟨sh, log, on⟩ a = if V.2 = 0 then (⟨V.1.sh, V.1.log, []⟩, 0) else V := by rw [← hV]; exact if_neg hn
    rw [hE]
    clear hE
    have hact := Lib.hid (act_calls (a := a) (tabs_below hT hB1.out) (hs.below hB1.out) h1 hl hl2 hz hzs hzt)
    rw [hV] at hact
    clear hV hT hz hzs
    have x1 := cells3 X1
    by_cases he : V.2 = 0
    · rw [if_pos he]
      rw [he] at hact
      clear he
      go_enter Tryz.func13, Tryz.ntmps13
      go_wp2_with (first
        | (go_at_call 31; go_must (refine hact.out.mono ?_; rintro e w2 ⟨rfl, hO⟩; replace hO := Lib.hid hO; obtain ⟨⟨v2, v3, v4, v5, v6, vs, vl, vo2, hs2⟩, hk2, hB2⟩ := hO.out; have c2 := cells11 hs2.blk; have f2 := blk_frozen hs2.blk 10; have hO2 := hO; clear hO; replace hs2 := Lib.hid hs2; replace hk2 := Lib.hid hk2; replace hB2 := Lib.hid hB2)))
      have E3 := one_facts (i := 10) hs2.out.blk (.slice none 0 0) rfl
      have K3 : Kept w2 (w2.setCell ⟨g, 10, none⟩ (.slice none 0 0)) (fun k => k = g) := Kept.setCell (S := fun k => k = g) (p := ⟨g, 10, none⟩) (Kept.refl w2 _) (.inl rfl) _
      go_ret
      refine ⟨rfl, SesOut.later hB1.out hbs (SesOut.step hO2.out ⟨_, _, _, _, _, _, _, _, hs2.out.none E3.1 K3⟩ (T := fun k => k = g) K3 (fun k h => .inl (h ▸ hs.og)) (E3.2.2 _ _ (Below.refl _ _) hs.ge))⟩
    · rw [if_neg he]
      have te : (V.2 == 0) = false := by simpa using he
      clear he
      go_enter Tryz.func13, Tryz.ntmps13
      go_wp2_with (first
        | (go_at_call 31; go_must (refine hact.out.mono ?_; rintro e w2 ⟨rfl, hO⟩; replace hO := Lib.hid hO)))
      go_ret
      exact ⟨rfl, SesOut.later hB1.out hbs hO.out⟩
end Go.Proofs.YtjopbfidjapmbaaGreatDoor.Q
end
section
namespace Go.Proofs.YtjopbfidjapmbaaGreatDoor.Q
open Go.RowKit Go.Proofs.YtjopbfidjapmbaaGreatDoorW.PrintWords Go.Proofs.YtjopbfidjapmbaaGreatDoorW.PrintLast Go.Proofs.YtjopbfidjapmbaaGreatDoorW.PrintMore
set_option linter.unusedVariables false
set_option linter.unusedSimpArgs false
open Go.Proofs.YtjopbfidjapmbaaGreatDoorS
theorem SesOut.after {own : Nat → Prop} {w w1 w2 : World} {base g : Nat} {P : Puz} {S : SS} (hk : Kept w w1 own) (hB : Below base w w1) (h : SesOut own w1 base g P S w2) : SesOut own w base g P S w2 := by
  obtain ⟨⟨_, _, _, _, _, _, _, _, hs⟩, hk2, hB2⟩ := h
  exact ⟨⟨_, _, _, _, _, _, _, _, hs.mono (fun k h => h.imp id (Nat.le_trans hk.1))⟩, hk.then_ hk2 (fun _ h => .inl h), hB.trans hB2⟩
set_option maxHeartbeats 8000000 in
set_option maxRecDepth 1000000 in
theorem redo_calls {own : Nat → Prop} {w : World} {base g : Nat} {P : Puz} {v2 v3 v4 v5 v6 vs vl vo : Value} {sh : List Sht} {log on : List Act3} (hT : ∀ w', Below base w w' → Tabs w') (hs : SesV own w base g P v2 v3 v4 v5 v6 vs vl vo sh log on) (h1 : 0 < sh.length) (hl : sh.length ≤ 1000000) (hl2 : log.length ≤ 1000000) (hl3 : on.length ≤ 1000000) (hz : PuzS P.t P.cells P.clues) (hzs : Small (topOf sh).1) (hzt : ∀ a, 0 < on.length → lastOf on = a → a.f2.size ≤ 1048576) :
    Calls Tryz.prog 15 #[.pointer (some ⟨g, 0, none⟩)] w fun e w' => e = .returned (.int .i64 (sRedo P ⟨sh, log, on⟩).2) ∧ SesOut own w base g P (sRedo P ⟨sh, log, on⟩).1 w' := by
  obtain ⟨Ao, co, rfl, hk, hC⟩ := Kd.R_reads hs.ro
  have c0 := cells11 hs.blk
  have hbs : base ≤ w.heap.size := Nat.le_trans hs.ge (Nat.le_of_lt (blk_lt hs.blk))
  by_cases hn : on.length = 0
  · have hE : sRedo P ⟨sh, log, on⟩ = (⟨sh, log, on⟩, 241) := if_pos hn
    rw [hE]
    have tn : ((on.length : Int) == 0) = true := by rw [hn]; rfl
    have tn2 : decide ((on.length : Int) = 0) = true := decide_eq_true (by omega)
    clear hE hn
    go_enter Tryz.func15, Tryz.ntmps15
    go_wp2
    go_ret
    exact ⟨rfl, SesOut.same hs (Below.refl _ _)⟩
  · have tn : ((on.length : Int) == 0) = false := by simpa using hn
    have hE : sRedo P ⟨sh, log, on⟩ = sAct P ⟨sh, log, on.take (on.length - 1)⟩ (lastOf on) := if_neg hn
    rw [hE]
    clear hE
    obtain ⟨a, ha⟩ : ∃ a, lastOf on = a := ⟨_, rfl⟩
    have hp := popA_calls hs.blk (j := 10) rfl hC hk (by omega) (by omega)
    have hzt := hzt a (by omega) ha
    rw [ha] at hp ⊢
    clear ha hn
    replace hp := Lib.hid hp
    clear hC
    replace hk := Lib.hid hk
    obtain ⟨V, hV⟩ : ∃ V, sAct P ⟨sh, log, on.take (on.length - 1)⟩ a = V := ⟨_, rfl⟩
    rw [hV]
    replace hV := Lib.hid hV
    go_enter Tryz.func15, Tryz.ntmps15
    go_wp2_with (first
      | (go_at_call 33; go_must (refine hp.out.mono ?_; rintro e w2 ⟨rfl, G2, K2, hB2⟩; have hs2 := Lib.hid (hs.popO G2 K2); have KK2 := Lib.hid (Kept.mono (S' := own) K2 (fun k h => h ▸ hs.og)); replace hB2 := Lib.hid (hB2 base hs.ge); clear G2 K2))
      | (go_at_call 31; go_must (refine (act_calls (own := own) (base := base) (P := P) (a := a) (hT _ hB2.out) hs2.out h1 hl hl2 hz hzs hzt).mono ?_; rintro e w3 ⟨rfl, hO⟩; rw [hV.out] at hO ⊢)))
    go_ret
    exact ⟨rfl, SesOut.after KK2.out hB2.out hO⟩
end Go.Proofs.YtjopbfidjapmbaaGreatDoor.Q
end
section
namespace Go.Proofs.YtjopbfidjapmbaaGreatDoor.Q
open Go.RowKit Go.Proofs.YtjopbfidjapmbaaGreatDoorW.PrintWords Go.Proofs.YtjopbfidjapmbaaGreatDoorW.PrintLast Go.Proofs.YtjopbfidjapmbaaGreatDoorW.PrintMore
set_option linter.unusedVariables false
set_option linter.unusedSimpArgs false
open Go.Proofs.YtjopbfidjapmbaaGreatDoorS
set_option maxHeartbeats 8000000 in
set_option maxRecDepth 1000000 in
theorem undo_calls {own : Nat → Prop} {w : World} {base g : Nat} {P : Puz} {v2 v3 v4 v5 v6 vs vl vo : Value} {sh : List Sht} {log on : List Act3} (hs : SesV own w base g P v2 v3 v4 v5 v6 vs vl vo sh log on) (h1 : 0 < sh.length) (hl : sh.length ≤ 1000000) (hl2 : log.length ≤ 1000000) (hl3 : on.length ≤ 1000000) :
    Calls Tryz.prog 14 #[.pointer (some ⟨g, 0, none⟩)] w fun e w' => e = .returned (.int .i64 (sUndo ⟨sh, log, on⟩).2) ∧ SesOut own w base g P (sUndo ⟨sh, log, on⟩).1 w' := by
  obtain ⟨Al, cl, rfl, hk, hC⟩ := Kd.R_reads hs.rl
  have c0 := cells11 hs.blk
  have hbs : base ≤ w.heap.size := Nat.le_trans hs.ge (Nat.le_of_lt (blk_lt hs.blk))
  by_cases hn : log.length = 0
  · have hE : sUndo ⟨sh, log, on⟩ = (⟨sh, log, on⟩, 240) := if_pos hn
    rw [hE]
    have tn : ((log.length : Int) == 0) = true := by rw [hn]; rfl
    clear hE hn
    go_enter Tryz.func14, Tryz.ntmps14
    go_wp2
    go_ret
    exact ⟨rfl, SesOut.same hs (Below.refl _ _)⟩
  · have tn : ((log.length : Int) == 0) = false := by simpa using hn
    have hE : sUndo ⟨sh, log, on⟩ = (⟨sh.take (sh.length - 1), log.take (log.length - 1), on ++ [lastOf log]⟩, 0) := if_neg hn
    rw [hE]
    clear hE
    obtain ⟨a, ha⟩ : ∃ a, lastOf log = a := ⟨_, rfl⟩
    have hp := fun (w1 : World) (hb : w1.heap[g]? = some (.cells #[.string P.t, .int .i64 P.H, .int .i64 P.W, v2, v3, v4, v5, v6, vs, .slice Al log.length cl, vo] 85 (0, 0))) (hc : Kd.C kAct w1 Al log.length log) => popA_calls (w := w1) hb (j := 9) rfl hc hk (by omega) (by omega)
    rw [ha] at hp ⊢
    clear ha hn
    replace hp := Lib.hid hp
    replace hk := Lib.hid hk
    go_enter Tryz.func14, Tryz.ntmps14
    go_wp2
    refine start_ (n := 8) (S := fun _ => True) (ds := []) #[false, false, false, false, false, false, false, false] (by kernel_rfl) rfl rfl (trivial) (fun hHeld => ?_)
    have hsd := hs.below (below_drew (Below.refl _ _))
    replace hC := Kd.C_below hC (below_drew (Below.refl _ _))
    refine pure_ (i := 0) (N := some 14) (v := ?_) (a' := ?_) #[true, false, false, false, false, false, false, false] rfl rfl (by kernel_rfl) (fun _ _ _ h => h) (Or.inl ⟨by rfl, ?_⟩) ?_ ?_
    rotate_left
    · intro w'; go_simp; with_reducible rfl
    rotate_left
    · simp only [Act.put, List.setIfInBounds_toArray, List.set_cons_zero, List.set_cons_succ, i64_w, i32_w]; rfl
    refine pure_ (i := 1) (N := some 15) (v := ?_) (a' := ?_) #[true, true, false, false, false, false, false, false] rfl rfl (by kernel_rfl) (fun _ _ _ h => h) (Or.inl ⟨by rfl, ?_⟩) ?_ ?_
    rotate_left
    · intro w'; go_simp; with_reducible rfl
    rotate_left
    · simp only [Act.put, List.setIfInBounds_toArray, List.set_cons_zero, List.set_cons_succ, i64_w, i32_w]; rfl
    refine pure_ (i := 2) (N := some 16) (v := ?_) (a' := ?_) #[true, true, true, false, false, false, false, false] rfl rfl (by kernel_rfl) (fun _ _ _ h => h) (Or.inl ⟨by rfl, ?_⟩) ?_ ?_
    rotate_left
    · intro w'; go_simp; with_reducible rfl
    rotate_left
    · simp only [Act.put, List.setIfInBounds_toArray, List.set_cons_zero, List.set_cons_succ, i64_w, i32_w]; rfl
    refine pure_ (i := 3) (N := some 17) (v := ?_) (a' := ?_) #[true, true, true, true, false, false, false, false] rfl rfl (by kernel_rfl) (fun _ _ _ h => h) (Or.inl ⟨by rfl, ?_⟩) ?_ ?_
    rotate_left
    · intro w'; go_simp; with_reducible rfl
    rotate_left
    · simp only [Act.put, List.setIfInBounds_toArray, List.set_cons_zero, List.set_cons_succ, i64_w, i32_w]; rfl
    refine pure_ (i := 4) (N := some 18) (v := ?_) (a' := ?_) #[true, true, true, true, true, false, false, false] rfl rfl (by kernel_rfl) (fun _ _ _ h => h) (Or.inl ⟨by rfl, ?_⟩) ?_ ?_
    rotate_left
    · intro w'; go_simp; with_reducible rfl
    rotate_left
    · simp only [Act.put, List.setIfInBounds_toArray, List.set_cons_zero, List.set_cons_succ, i64_w, i32_w]; rfl
    refine pure_ (i := 5) (N := some 19) (v := ?_) (a' := ?_) #[true, true, true, true, true, true, false, false] rfl rfl (by kernel_rfl) (fun _ _ _ h => h) (Or.inl ⟨by rfl, ?_⟩) ?_ ?_
    rotate_left
    · intro w'; go_simp; with_reducible rfl
    rotate_left
    · simp only [Act.put, List.setIfInBounds_toArray, List.set_cons_zero, List.set_cons_succ, i64_w, i32_w]; rfl
    refine one_ (i := 6) (N := some 20) #[true, true, true, true, true, true, true, false] rfl rfl (by kernel_rfl) (by decide) (fun K hK => ?_)
    refine goes_ Tryz.func33 (by kernel_rfl) rfl #[.pointer (some ⟨g, 9, none⟩)] (by rfl) rfl rfl (by first | (go_simp; done) | (go_simp; rfl)) ?_
    refine (hp.out _ hsd.blk hC).mono ?_
    rintro e w2 ⟨rfl, G2, K2, hB2⟩
    refine ⟨_, rfl, ?_⟩
    have hs2 := hsd.popL G2 K2
    have B2 := (below_drew (Below.refl base w)).trans (hB2 base hs.ge)
    have KK2 : Kept w w2 own := (Kept.of_below (below_drew (Below.refl _ _)) own).then_ K2 (fun k h => .inl (h ▸ hs.og))
    clear G2 K2 hB2 hsd hC
    refine hK.out _ _ (trivial) (fun hHeld => ?_)
    clear hK K
    refine norm_ (a' := ?_) ?_ ?_
    rotate_left
    · show Act.put _ (some 20) _ = _
      simp only [Act.put, List.setIfInBounds_toArray, List.set_cons_zero, List.set_cons_succ, i64_w, i32_w]; rfl
    refine one_ (i := 7) (N := some 21) #[true, true, true, true, true, true, true, true] rfl rfl (by kernel_rfl) (by decide) (fun K hK => ?_)
    refine goes_ Tryz.func32 (by kernel_rfl) rfl #[.pointer (some ⟨g, 10, none⟩), .agg #[.int .i64 a.f0, .int .i64 a.f1, .string a.f2]] (by rfl) rfl rfl (by first | (go_simp; done) | (go_simp; rfl)) ?_
    have hs2 := SesV.mono (own' := fun k => own k ∨ w.heap.size ≤ k) hs2 (fun _ h => .inl h)
    refine (pushA_calls hs2.blk rfl hs2.ge hs2.ro (fun k hk => ⟨.inr (Nat.le_trans KK2.1 hk), R_fresh hs2.rl k hk⟩) (by omega)).mono ?_
    rintro e w3 ⟨rfl, vo3, G3, R3, K3, B3, hat3⟩
    refine ⟨_, rfl, ?_⟩
    have hs3 := hs2.pushO G3 R3 K3 hat3
    have KK3 := KK2.then_ K3 (by rintro k (rfl | h); exact .inl hs.og; exact (hs2.ro.1 k h.symm).1)
    replace B3 := B2.trans B3
    clear hs2 G3 R3 K3 hat3 KK2 B2
    refine hK.out _ _ (trivial) (fun hHeld => ?_)
    clear hK K
    refine norm_ (a' := ?_) ?_ ?_
    rotate_left
    · show Act.put _ (some 21) _ = _
      simp only [Act.put, List.setIfInBounds_toArray, List.set_cons_zero, List.set_cons_succ, i64_w, i32_w]; rfl
    refine done_ (by kernel_rfl) ?_
    obtain ⟨As, cs, rfl, hks, hCs⟩ := Kd.R_reads hs3.rs
    have hq := Lib.hid (popS_calls hs3.blk (j := 8) rfl hCs hks h1 (by omega))
    clear hks hCs
    go_wp2_with (first
      | (go_at_call 34; go_must (refine hq.out.mono ?_; rintro e w4 ⟨A7, c7, A8, c8, rfl, G4, K4, hB4⟩; have hs4 := hs3.popS G4 K4; have KK4 := KK3.then_ K4 (fun k h => .inl (h ▸ hs.og)); have B4 := B3.trans (hB4 base hs.ge); clear G4 K4 hB4)))
    go_ret
    exact ⟨rfl, ⟨_, _, _, _, _, _, _, _, hs4⟩, KK4, B4⟩
end Go.Proofs.YtjopbfidjapmbaaGreatDoor.Q
end
section
namespace Go.Proofs.YtjopbfidjapmbaaGreatDoor.Q
open Go.RowKit Go.Proofs.YtjopbfidjapmbaaGreatDoorW.PrintWords Go.Proofs.YtjopbfidjapmbaaGreatDoorW.PrintLast Go.Proofs.YtjopbfidjapmbaaGreatDoorW.PrintMore
set_option linter.unusedVariables false
set_option linter.unusedSimpArgs false
open Go.Proofs.YtjopbfidjapmbaaGreatDoorS
theorem mine_ {α : Type} {d : Kd α} {e base b : Nat} {ok : Nat → Prop} {w : World} {v : Value} {xs : List α} (h : d.R e w b ok v xs) (hb : base ≤ b) : d.R e w base (fun k => base ≤ k) v xs := Kd.R_lower (Kd.R_mono (Kd.R_bound h) (fun k hk => Nat.le_trans hb hk.2.1)) hb
def NewPost (w : World) (P : Puz) (r : List ByteArray × List Bool × Int × Bool × Int) (e : Ending) (w' : World) : Prop :=
  (r.2.2.2.2 ≠ 0 ∧ e = .returned (.tuple #[.pointer none, .int .i64 r.2.2.2.2]) ∧ Below w.heap.size w w') ∨ (r.2.2.2.2 = 0 ∧ ∃ g, e = .returned (.tuple #[.pointer (some ⟨g, 0, none⟩), .int .i64 0]) ∧ Ses (fun k => w.heap.size ≤ k) w' w.heap.size g P ⟨[(r.1, r.2.1, r.2.2.1, r.2.2.2.1)], [], []⟩ ∧ Below w.heap.size w w')
set_option maxHeartbeats 8000000 in
set_option maxRecDepth 1000000 in
theorem new_calls {title : ByteArray} {H W : Int} {A2 : Option Addr} {c2 : Nat} {bl : List Bool} {A3 : Option Addr} {c3 : Nat} {ri : List Bool} {A4 : Option Addr} {c4 : Nat} {be : List Bool} {A5 : Option Addr} {c5 : Nat} {cells : List ByteArray} {A6 : Option Addr} {c6 : Nat} {clues : List ByteArray} {w : World} (hT : Tabs w) (hP : PuzR A2 c2 bl A3 c3 ri A4 c4 be A5 c5 cells A6 c6 clues w) (hz : PuzS title cells clues) (h2 : bl.length ≤ 1048576) (h3 : ri.length ≤ 1048576) (h4 : be.length ≤ 1048576) :
    Calls Tryz.prog 11 #[.agg #[.string title, .int .i64 H, .int .i64 W, .slice A2 bl.length c2, .slice A3 ri.length c3, .slice A4 be.length c4, .slice A5 cells.length c5, .slice A6 clues.length c6]] w (NewPost w ⟨title, H, W, bl, ri, be, cells, clues⟩ (sstart title H W bl ri be cells clues)) := by
  have hx := box1 w (.cells #[.string title, .int .i64 H, .int .i64 W, .slice A2 bl.length c2, .slice A3 ri.length c3, .slice A4 be.length c4, .slice A5 cells.length c5, .slice A6 clues.length c6] 42)
  replace hx := Lib.hid hx
  have hu := Tryz.underlying42
  have hu24 := Tryz.underlying39
  have hu55 := Tryz.underlying85
  have x0 := cells8 hx.out.1
  have hst := Lib.hid (start_calls (H := H) (W := W) (tabs_below hT hx.out.2) (hP.below hx.out.2) hz)
  obtain ⟨r, hr⟩ : ∃ r, sstart title H W bl ri be cells clues = r := ⟨_, rfl⟩
  rw [hr] at hst ⊢
  clear hr hT
  by_cases he : r.2.2.2.2 = 0
  · have te : (r.2.2.2.2 != 0) = false := by simpa using he
    replace he := Lib.hid he
    go_enter Tryz.func11, Tryz.ntmps11
    go_wp2_with (first
      | (go_at_call 28; go_must (refine hst.out.mono ?_; rintro e w3 ⟨u0, u1, rfl, R0, R1, hb3⟩; have hB3 := below_step hx.out.2 hb3; replace R0 := Kd.R_lower R0 hx.out.2.size; replace R1 := Kd.R_lower R1 hx.out.2.size; obtain ⟨D0, k0, rfl⟩ := Kd.R_slice R0; obtain ⟨D1, k1, rfl⟩ := Kd.R_slice R1; have hX := box1 w3 (.cells #[.slice D0 r.1.length k0, .slice D1 r.2.1.length k1, .int .i64 r.2.2.1, .bool r.2.2.2.1] 57); have P4 := blk_below (blk_below hx.out.1 hb3) hX.2; have p4 := cells8 P4; have hB4 := below_step hB3 hX.2; have Z4 := hX.1; replace R0 := Kd.R_below R0 hX.2; replace R1 := Kd.R_below R1 hX.2; replace hB4 := Lib.hid hB4; replace Z4 := Lib.hid Z4; replace R0 := Lib.hid R0; replace R1 := Lib.hid R1; clear hX hB3 hb3 P4))
      | (go_at_call 29; go_must (have hP4 := hP.below hB4.out; refine (session_copied.calls _ _ _ _ _ _ _ _ _ _ _ _ _ _ _ _ _ _ title H W bl ri be cells clues _ hP4.r2 hP4.k2 hP4.r3 hP4.k3 hP4.r4 hP4.k4 hP4.r5 hP4.k5 hP4.r6 hP4.k6 (by unfold session_copied.f slices_Clone_bool_bool.f slices_Clone_string_string.f; have := hz.l; have := hz.m; rw [if_pos (by omega), if_pos (by omega), if_pos (by omega), if_pos (by omega), if_pos (by omega)]; rfl)).mono ?_; clear hP4; rintro e w5 ⟨v2, v3, v4, v5, v6, rfl, Q2, Q3, Q4, Q5, Q6, hb5⟩; have hs5 := Nat.le_trans hB4.out.size hb5.size; have hB5 := Lib.hid (below_step hB4.out hb5); have Z5 := Lib.hid (blk_below Z4.out hb5); have R05 := Lib.hid (Kd.R_below R0.out hb5); have R15 := Lib.hid (Kd.R_below R1.out hb5); replace Q2 := Lib.hid (mine_ Q2 hB4.out.size); replace Q3 := Lib.hid (mine_ Q3 hB4.out.size); replace Q4 := Lib.hid (mine_ Q4 hB4.out.size); replace Q5 := Lib.hid (mine_ Q5 hB4.out.size); replace Q6 := Lib.hid (mine_ Q6 hB4.out.size); obtain ⟨D2, k2, rfl⟩ := Kd.R_slice Q2.out; obtain ⟨D3, k3, rfl⟩ := Kd.R_slice Q3.out; obtain ⟨D4, k4, rfl⟩ := Kd.R_slice Q4.out; obtain ⟨D5, k5, rfl⟩ := Kd.R_slice Q5.out; obtain ⟨D6, k6, rfl⟩ := Kd.R_slice Q6.out; clear hb5)))
    have hY := below_drew (below_alloc (Below.refl w5.heap.size w5) (.cells #[.string title, .int .i64 H, .int .i64 W, .slice D2 bl.length k2, .slice D3 ri.length k3, .slice D4 be.length k4, .slice D5 cells.length k5, .slice D6 clues.length k6, .slice none 0 0, .slice none 0 0, .slice none 0 0] 85))
    have S6 : SesV (fun k => w.heap.size ≤ k) (w5.alloc (.cells #[.string title, .int .i64 H, .int .i64 W, .slice D2 bl.length k2, .slice D3 ri.length k3, .slice D4 be.length k4, .slice D5 cells.length k5, .slice D6 clues.length k6, .slice none 0 0, .slice none 0 0, .slice none 0 0] 85)).drew w.heap.size w5.heap.size ⟨title, H, W, bl, ri, be, cells, clues⟩ _ _ _ _ _ _ _ _ [] [] [] := ⟨blk_drew (blk_new w5 (.cells #[.string title, .int .i64 H, .int .i64 W, .slice D2 bl.length k2, .slice D3 ri.length k3, .slice D4 be.length k4, .slice D5 cells.length k5, .slice D6 clues.length k6, .slice none 0 0, .slice none 0 0, .slice none 0 0] 85)), hs5, hs5, Kd.R_below Q2.out hY, Kd.R_below Q3.out hY, Kd.R_below Q4.out hY, Kd.R_below Q5.out hY, Kd.R_below Q6.out hY, Kd.R_nil _ _ _ _ _, Kd.R_nil _ _ _ _ _, Kd.R_nil _ _ _ _ _⟩
    have hB6 := below_step hB5.out hY
    have Z6 := blk_below Z5.out hY
    have R06 := Kd.R_below R05.out hY
    have R16 := Kd.R_below R15.out hY
    clear hY
    refine start_ (n := 5) (S := fun w' => w'.heap[w3.heap.size]? = some (.cells #[.slice D0 r.1.length k0, .slice D1 r.2.1.length k1, .int .i64 r.2.2.1, .bool r.2.2.2.1] 57 (0, 0))) (ds := [4]) #[false, false, false, false, false] (by kernel_rfl) rfl rfl (Z6) (fun hHeld => ?_)
    generalize (w5.alloc (.cells #[.string title, .int .i64 H, .int .i64 W, .slice D2 bl.length k2, .slice D3 ri.length k3, .slice D4 be.length k4, .slice D5 cells.length k5, .slice D6 clues.length k6, .slice none 0 0, .slice none 0 0, .slice none 0 0] 85)).drew = w6 at S6 hB6 Z6 R06 R16 hHeld ⊢
    obtain ⟨g, hg⟩ : ∃ g, w5.heap.size = g := ⟨_, rfl⟩
    rw [hg] at S6 ⊢
    refine pure_ (i := 0) (N := some 19) (v := ?_) (a' := ?_) #[true, false, false, false, false] rfl rfl (by kernel_rfl) (fun _ _ _ h => h) (Or.inl ⟨by rfl, ?_⟩) ?_ ?_
    rotate_left
    · intro w'; go_simp; with_reducible rfl
    rotate_left
    · simp only [Act.put, List.setIfInBounds_toArray, List.set_cons_zero, List.set_cons_succ, i64_w, i32_w]; rfl
    refine pure_ (i := 1) (N := some 20) (v := ?_) (a' := ?_) #[true, true, false, false, false] rfl rfl (by kernel_rfl) (fun _ _ _ h => h) (Or.inl ⟨by rfl, ?_⟩) ?_ ?_
    rotate_left
    · intro w'; go_simp; with_reducible rfl
    rotate_left
    · simp only [Act.put, List.setIfInBounds_toArray, List.set_cons_zero, List.set_cons_succ, i64_w, i32_w]; rfl
    refine pure_ (i := 2) (N := some 21) (v := ?_) (a' := ?_) #[true, true, true, false, false] rfl rfl (by kernel_rfl) (fun _ _ _ h => h) (Or.inl ⟨by rfl, ?_⟩) ?_ ?_
    rotate_left
    · intro w'; go_simp; with_reducible rfl
    rotate_left
    · simp only [Act.put, List.setIfInBounds_toArray, List.set_cons_zero, List.set_cons_succ, i64_w, i32_w]; rfl
    refine take_ (i := 3) (N := some 22) (v := ?_) (a' := ?_) #[true, true, true, true, false] rfl rfl (by kernel_rfl) (fun _ _ _ h => h) (Or.inl ⟨by rfl, ?_⟩) hHeld ?_ ?_
    rotate_left
    · rintro w' s0; have q0 := cells4 s0; clear s0; go_simp; with_reducible rfl
    rotate_left
    · simp only [Act.put, List.setIfInBounds_toArray, List.set_cons_zero, List.set_cons_succ, i64_w, i32_w]; rfl
    refine last_ (i := 4) (N := some 23) #[true, true, true, true, true] rfl rfl (by kernel_rfl) (by decide) (fun K hK => ?_)
    refine goes_ Tryz.func30 (by kernel_rfl) rfl #[.pointer (some ⟨g, 8, none⟩), .agg #[.slice D0 r.1.length k0, .slice D1 r.2.1.length k1, .int .i64 r.2.2.1, .bool r.2.2.2.1]] (by rfl) rfl rfl (by first | (go_simp; done) | (go_simp; rfl)) ?_
    refine (pushS_calls (x := (r.1, r.2.1, r.2.2.1, r.2.2.2.1)) (okp := fun k => w.heap.size ≤ k) S6.blk rfl S6.ge S6.rs (mine_ R06 (Nat.le_refl _)) (mine_ R16 (Nat.le_refl _)) (fun _ h => h) (fun k h => Nat.le_trans hB6.size h) (by decide)).mono ?_
    rintro e w8 ⟨rfl, vs8, G8, RS8, K8, hB8, _⟩
    refine ⟨_, rfl, ?_⟩
    have S8 := S6.pushS G8 RS8 K8
    have hB68 := hB6.trans hB8
    clear S6 G8 RS8 K8 hB8 Z6 R06 R16 hB6
    refine hK.out _ _ ?_
    clear hK K
    refine norm_ (a' := ?_) ?_ ?_
    rotate_left
    · show Act.put _ (some 23) _ = _
      simp only [Act.put, List.setIfInBounds_toArray, List.set_cons_zero, List.set_cons_succ, i64_w, i32_w]; rfl
    refine done_ (by kernel_rfl) ?_
    go_wp2
    go_ret2
    exact .inr ⟨he.out, g, rfl, ⟨_, _, _, _, _, _, _, _, S8⟩, hB68⟩
  · have te : (r.2.2.2.2 != 0) = true := by simpa using he
    replace he := Lib.hid he
    go_enter Tryz.func11, Tryz.ntmps11
    go_wp2_with (first
      | (go_at_call 28; go_must (refine hst.out.mono ?_; rintro e w3 ⟨u0, u1, rfl, R0, R1, hb3⟩; have hB3 := below_step hx.out.2 hb3; replace R0 := Kd.R_lower R0 hx.out.2.size; replace R1 := Kd.R_lower R1 hx.out.2.size; obtain ⟨D0, k0, rfl⟩ := Kd.R_slice R0; obtain ⟨D1, k1, rfl⟩ := Kd.R_slice R1; have hX := box1 w3 (.cells #[.slice D0 r.1.length k0, .slice D1 r.2.1.length k1, .int .i64 r.2.2.1, .bool r.2.2.2.1] 57); have P4 := blk_below (blk_below hx.out.1 hb3) hX.2; have p4 := cells8 P4; have hB4 := below_step hB3 hX.2; have Z4 := hX.1; replace R0 := Kd.R_below R0 hX.2; replace R1 := Kd.R_below R1 hX.2; replace hB4 := Lib.hid hB4; replace Z4 := Lib.hid Z4; replace R0 := Lib.hid R0; replace R1 := Lib.hid R1; clear hX hB3 hb3 P4)))
    go_ret2
    exact .inl ⟨he.out, rfl, hB4.out⟩
end Go.Proofs.YtjopbfidjapmbaaGreatDoor.Q
end
section
namespace Go.Proofs.YtjopbfidjapmbaaGreatDoor.Q
open Go.RowKit Go.Proofs.YtjopbfidjapmbaaGreatDoorW.PrintWords Go.Proofs.YtjopbfidjapmbaaGreatDoorW.PrintLast Go.Proofs.YtjopbfidjapmbaaGreatDoorW.PrintMore
set_option linter.unusedVariables false
set_option linter.unusedSimpArgs false
open Go.Proofs.YtjopbfidjapmbaaGreatDoorS
theorem letter_small {x : ByteArray} (h : uletter x = true) : x.size ≤ 12 := by
  have hc := letter_count h
  have e := letter_fold h
  have e2 : x.size = ((urunes x).flatMap (upiece false)).length := by
    have e3 : (ufold x false).size = ((urunes x).flatMap (upiece false)).length := by unfold ufold; show (List.toArray _).size = _; rw [List.size_toArray]
    rw [e] at e3; exact e3
  have hl : (urunes x).length = ucount x := by simp [ucount, urunes]
  have hp : ∀ rs : List Int, (rs.flatMap (upiece false)).length ≤ 4 * rs.length := by
    intro rs
    induction rs with
    | nil => simp
    | cons r rs ih =>
      have : (upiece false r).length ≤ 4 := by
        unfold upiece
        split
        · simp only [Bool.false_eq_true, if_false]
          rw [Array.length_toList]
          exact encode_size (uupper r)
        · simp
      simp only [List.flatMap_cons, List.length_append, List.length_cons]
      omega
  have := hp (urunes x)
  omega
theorem Rsheet.small {bl : List Bool} {cells sc : List ByteArray} {ss : List Bool} {at_ : Int} (h : Rsheet bl cells sc ss at_) : Small sc := fun s hs => by
  obtain ⟨j, hj, rfl⟩ := List.getElem_of_mem hs
  have e : rdOf ByteArray.empty sc (j : Int) = sc[j] := by simp [rdOf, List.getD_eq_getElem?_getD, hj]
  have hl := pbad1_letter (h.good j hj)
  rw [e] at hl
  rcases hl with h0 | hl
  · have h1 : sc[j].data.toList.length = 0 := by rw [← ByteArray.toList_eq, h0]; rfl
    rw [Array.length_toList] at h1
    have h2 : sc[j].size = 0 := h1
    omega
  · have := letter_small hl.2
    omega
end Go.Proofs.YtjopbfidjapmbaaGreatDoor.Q
end
section
namespace Go.Proofs.YtjopbfidjapmbaaGreatDoor.Q
open Go.RowKit Go.Proofs.YtjopbfidjapmbaaGreatDoorW.PrintWords Go.Proofs.YtjopbfidjapmbaaGreatDoorW.PrintLast Go.Proofs.YtjopbfidjapmbaaGreatDoorW.PrintMore
set_option linter.unusedVariables false
set_option linter.unusedSimpArgs false
open Go.Proofs.YtjopbfidjapmbaaGreatDoorS
def SesT (own : Nat → Prop) (w : World) (base g : Nat) (P : Puz) (S : SS) : Prop := Ses own w base g P S ∧ ∀ k, own k → k < w.heap.size
def nextOwn (own : Nat → Prop) (w w' : World) : Nat → Prop := fun k => (own k ∨ w.heap.size ≤ k) ∧ k < w'.heap.size
theorem SesOut.trim {own : Nat → Prop} {w w' : World} {base g : Nat} {P : Puz} {S : SS} (h : SesOut own w base g P S w') : SesT (nextOwn own w w') w' base g P S ∧ Kept w w' own ∧ Below base w w' := by
  obtain ⟨⟨_, _, _, _, _, _, _, _, hs⟩, hk, hB⟩ := h
  exact ⟨⟨⟨_, _, _, _, _, _, _, _, hs.trim⟩, fun k hk => hk.2⟩, hk, hB⟩
theorem SesT.below {own : Nat → Prop} {w w' : World} {base g : Nat} {P : Puz} {S : SS} (h : SesT own w base g P S) (hb : Below w.heap.size w w') : SesT own w' base g P S := by
  obtain ⟨⟨_, _, _, _, _, _, _, _, hs⟩, ho⟩ := h
  exact ⟨⟨_, _, _, _, _, _, _, _, hs.below hb⟩, fun k hk => Nat.lt_of_lt_of_le (ho k hk) hb.size⟩
theorem SesT.kept {own T : Nat → Prop} {w w' : World} {base g : Nat} {P : Puz} {S : SS} (h : SesT own w base g P S) (hk : Kept w w' T) (hn : ∀ k, own k → ¬ T k) : SesT own w' base g P S := by
  obtain ⟨⟨_, _, _, _, _, _, _, _, hs⟩, ho⟩ := h
  exact ⟨⟨_, _, _, _, _, _, _, _, hs.kept hk hn⟩, fun k hk2 => Nat.lt_of_lt_of_le (ho k hk2) hk.1⟩
theorem R_beside {α : Type} {d : Kd α} {e b : Nat} {own : Nat → Prop} {w w' : World} {v : Value} {xs : List α} (h : d.R e w b (fun k => ¬ own k) v xs) (hk : Kept w w' own) : d.R e w' b (fun k => ¬ nextOwn own w w' k) v xs :=
  Kd.R_mono (Kd.R_kept (Kd.R_bound h) hk (fun k hk => hk.1)) (fun k hk hn => by
    rcases hn.1 with h1 | h1
    · exact hk.1 h1
    · have := hk.2.2.1
      omega)
theorem R_mine {α : Type} {d : Kd α} {e b : Nat} {own : Nat → Prop} {w w' : World} {v : Value} {xs : List α} {ok : Nat → Prop} (h : d.R e w' w.heap.size ok v xs) (ho : ∀ k, own k → k < w.heap.size) (hb : b ≤ w.heap.size) : d.R e w' b (fun k => ¬ own k) v xs :=
  Kd.R_lower (Kd.R_mono (Kd.R_bound h) (fun k hk hn => by
    have := ho k hn
    have := hk.2.1
    omega)) hb
structure SesOk (P : Puz) (S : SS) : Prop where
  z : PuzS P.t P.cells P.clues
  h1 : 0 < S.sh.length
  hl : S.sh.length ≤ 1000000
  hl2 : S.log.length ≤ 1000000
  hl3 : S.on.length ≤ 1000000
  sm : ∀ s ∈ S.sh, ShtS s
  ac : ∀ a ∈ S.on, a.f2.size ≤ 1048576
theorem SesOk.top {P : Puz} {S : SS} (h : SesOk P S) : ShtS (topOf S.sh) := by
  have h1 := h.h1
  rw [topOf_eq h1]
  exact h.sm _ (shN_mem (by omega))
section
variable {own : Nat → Prop} {w : World} {base g : Nat} {P : Puz} {S : SS}
theorem wsheet (h : SesT own w base g P S) (ok : SesOk P S) :
    Calls Tryz.prog 19 #[.pointer (some ⟨g, 0, none⟩)] w fun e w' => ∃ u0 u1, e = .returned (.agg #[u0, u1, .int .i64 (topOf S.sh).2.2.1, .bool (topOf S.sh).2.2.2]) ∧ Kd.R Kd.string 9 w' w.heap.size (fun _ => True) u0 (topOf S.sh).1 ∧ Kd.R Kd.bool 4 w' w.heap.size (fun _ => True) u1 (topOf S.sh).2.1 ∧ Below w.heap.size w w' ∧ SesT own w' base g P S := by
  obtain ⟨_, _, _, _, _, _, _, _, hs⟩ := h.1
  refine (sheet_calls hs ok.h1 (by have := ok.hl; omega) ok.top).mono ?_
  rintro e w' ⟨u0, u1, rfl, h0, h1, hb⟩
  exact ⟨u0, u1, rfl, h0, h1, hb, h.below hb⟩
theorem wlog (h : SesT own w base g P S) (ok : SesOk P S) :
    Calls Tryz.prog 16 #[.pointer (some ⟨g, 0, none⟩)] w fun e w' => ∃ u, e = .returned u ∧ Kd.R kAct 35 w' w.heap.size (fun _ => True) u S.log ∧ Below w.heap.size w w' ∧ SesT own w' base g P S := by
  obtain ⟨_, _, _, _, _, _, _, _, hs⟩ := h.1
  refine (log_calls hs (by have := ok.hl2; omega)).mono ?_
  rintro e w' ⟨u, rfl, h0, hb⟩
  exact ⟨u, rfl, h0, hb, h.below hb⟩
theorem won (h : SesT own w base g P S) :
    Calls Tryz.prog 20 #[.pointer (some ⟨g, 0, none⟩)] w fun e w' => e = .returned (.int .i64 S.on.length) ∧ Below w.heap.size w w' ∧ SesT own w' base g P S := by
  obtain ⟨_, _, _, _, _, _, _, _, hs⟩ := h.1
  refine (on_calls hs).mono ?_
  rintro e w' ⟨rfl, hb⟩
  exact ⟨rfl, hb, h.below hb⟩
theorem wdo {a : Act3} (hT : Tabs w) (h : SesT own w base g P S) (ok : SesOk P S) (ha : a.f2.size ≤ 1048576) :
    Calls Tryz.prog 13 #[.pointer (some ⟨g, 0, none⟩), .agg #[.int .i64 a.f0, .int .i64 a.f1, .string a.f2]] w fun e w' => e = .returned (.int .i64 (sDo P S a).2) ∧ SesT (nextOwn own w w') w' base g P (sDo P S a).1 ∧ Kept w w' own ∧ Below base w w' := by
  obtain ⟨_, _, _, _, _, _, _, _, hs⟩ := h.1
  refine (do_calls hT hs ok.h1 ok.hl ok.hl2 ok.z ok.top.sm ha).mono ?_
  rintro e w' ⟨rfl, ho⟩
  exact ⟨rfl, ho.trim⟩
theorem wundo (h : SesT own w base g P S) (ok : SesOk P S) :
    Calls Tryz.prog 14 #[.pointer (some ⟨g, 0, none⟩)] w fun e w' => e = .returned (.int .i64 (sUndo S).2) ∧ SesT (nextOwn own w w') w' base g P (sUndo S).1 ∧ Kept w w' own ∧ Below base w w' := by
  obtain ⟨_, _, _, _, _, _, _, _, hs⟩ := h.1
  refine (undo_calls hs ok.h1 ok.hl ok.hl2 ok.hl3).mono ?_
  rintro e w' ⟨rfl, ho⟩
  exact ⟨rfl, ho.trim⟩
theorem wredo (hT : ∀ w', Below base w w' → Tabs w') (h : SesT own w base g P S) (ok : SesOk P S) :
    Calls Tryz.prog 15 #[.pointer (some ⟨g, 0, none⟩)] w fun e w' => e = .returned (.int .i64 (sRedo P S).2) ∧ SesT (nextOwn own w w') w' base g P (sRedo P S).1 ∧ Kept w w' own ∧ Below base w w' := by
  obtain ⟨_, _, _, _, _, _, _, _, hs⟩ := h.1
  refine (redo_calls hT hs ok.h1 ok.hl ok.hl2 ok.hl3 ok.z ok.top.sm ?_).mono ?_
  · rintro a hn rfl
    rw [lastOf_eq hn]
    exact ok.ac _ (acN_mem (by omega))
  rintro e w' ⟨rfl, ho⟩
  exact ⟨rfl, ho.trim⟩
end
def RSht (P : Puz) (s : Sht) : Prop := Rsheet P.bl P.cells s.1 s.2.1 s.2.2.1
theorem RSht.small {P : Puz} {s : Sht} (h : RSht P s) (hl : P.cells.length ≤ 1048576) : ShtS s := ⟨Rsheet.small h, by have := h.l; omega, by have := h.m; omega⟩
theorem doP_right {P : Puz} {s x : Sht} {a : Act3} (h : doP P s a = (x, 0)) : RSht P x := by
  obtain ⟨x0, x1, x2, x3⟩ := x
  unfold doP at h
  injection h with h1 h2
  injection h1 with h3 h4
  injection h4 with h4 h5
  injection h5 with h5 h6
  exact (do_right (show doOf P.t P.H P.W P.bl P.ri P.be P.cells P.clues s.1 s.2.1 s.2.2.1 s.2.2.2 a.f0 a.f1 a.f2 = (x0, x1, x2, x3, 0) by rw [← h3, ← h4, ← h5, ← h6, ← h2])).2.2
end Go.Proofs.YtjopbfidjapmbaaGreatDoor.Q
end
section
namespace Go.Proofs.YtjopbfidjapmbaaGreatDoor.Q
open Go.RowKit Go.Proofs.YtjopbfidjapmbaaGreatDoorW.PrintWords Go.Proofs.YtjopbfidjapmbaaGreatDoorW.PrintLast Go.Proofs.YtjopbfidjapmbaaGreatDoorW.PrintMore
set_option linter.unusedVariables false
set_option linter.unusedSimpArgs false
open Go.Proofs.YtjopbfidjapmbaaGreatDoorS
structure Inv (P : Puz) (s0 : Sht) (N : Nat) (S : SS) : Prop where
  r : Run P S.sh S.log
  s : ∀ s ∈ S.sh, RSht P s
  al : ∀ a ∈ S.log, a.f2.size ≤ 1048576
  ao : ∀ a ∈ S.on, a.f2.size ≤ 1048576
  n : S.log.length + S.on.length ≤ N
  z : shN S.sh 0 = s0
theorem inv_new {P : Puz} {s0 : Sht} (h : RSht P s0) : Inv P s0 0 ⟨[s0], [], []⟩ := ⟨run_new P s0, (fun s hs => by rw [List.mem_singleton.1 hs]; exact h), (fun a h => by cases h), (fun a h => by cases h), Nat.le_refl _, rfl⟩
theorem inv_more {P : Puz} {s0 : Sht} {N M : Nat} {S : SS} (h : Inv P s0 N S) (hm : N ≤ M) : Inv P s0 M S := ⟨h.r, h.s, h.al, h.ao, Nat.le_trans h.n hm, h.z⟩
theorem inv_act {P : Puz} {s0 : Sht} {N : Nat} {S : SS} (h : Inv P s0 N S) {a : Act3} (ha : a.f2.size ≤ 1048576) : Inv P s0 (N + 1) (sAct P S a).1 := by
  unfold sAct
  by_cases hd : (doP P (topOf S.sh) a).2 = 0
  · rw [if_pos hd]
    obtain ⟨x, hx⟩ : ∃ x, (doP P (topOf S.sh) a).1 = x := ⟨_, rfl⟩
    have hdx : doP P (topOf S.sh) a = (x, 0) := by rw [← hx, ← hd]
    rw [hx]
    refine ⟨run_more h.r hdx, fun t ht => ?_, fun b hb => ?_, h.ao, ?_, ?_⟩
    · rcases List.mem_append.1 ht with ht | ht
      · exact h.s t ht
      · rw [List.mem_singleton.1 ht]; exact doP_right hdx
    · rcases List.mem_append.1 hb with hb | hb
      · exact h.al b hb
      · rw [List.mem_singleton.1 hb]; exact ha
    · have := h.n
      show (S.log ++ [a]).length + S.on.length ≤ N + 1
      rw [List.length_append, List.length_singleton]
      omega
    · have := h.r.n
      show shN (S.sh ++ [x]) 0 = s0
      rw [shN_snoc (by omega)]
      exact h.z
  · rw [if_neg hd]
    exact inv_more h (Nat.le_succ N)
theorem inv_do {P : Puz} {s0 : Sht} {N : Nat} {S : SS} (h : Inv P s0 N S) {a : Act3} (ha : a.f2.size ≤ 1048576) : Inv P s0 (N + 1) (sDo P S a).1 := by
  have h2 := inv_act h ha
  unfold sDo
  split
  · exact inv_more h (Nat.le_succ N)
  · split
    · exact ⟨h2.r, h2.s, h2.al, (fun a h => by cases h), by have := h2.n; show (sAct P S a).1.log.length + 0 ≤ N + 1; omega, h2.z⟩
    · exact h2
theorem inv_undo {P : Puz} {s0 : Sht} {N : Nat} {S : SS} (h : Inv P s0 N S) : Inv P s0 N (sUndo S).1 := by
  have hn := h.r.n
  unfold sUndo
  split
  · exact h
  · rename_i hl
    have l1 : (S.log.take (S.log.length - 1)).length = S.log.length - 1 := by rw [List.length_take]; omega
    have l2 : (S.sh.take (S.sh.length - 1)).length = S.sh.length - 1 := by rw [List.length_take]; omega
    refine ⟨⟨by show (S.sh.take (S.sh.length - 1)).length = (S.log.take (S.log.length - 1)).length + 1; omega, fun i hi => ?_⟩, fun s hs => h.s s (List.mem_of_mem_take hs), fun a ha => h.al a (List.mem_of_mem_take ha), fun a ha => ?_, ?_, ?_⟩
    · replace hi : i < (S.log.take (S.log.length - 1)).length := hi
      show doP P (shN (S.sh.take (S.sh.length - 1)) i) (acN (S.log.take (S.log.length - 1)) i) = (shN (S.sh.take (S.sh.length - 1)) (i + 1), 0)
      rw [shN_take (by omega), shN_take (by omega)]
      have e : acN (S.log.take (S.log.length - 1)) i = acN S.log i := by
        unfold acN
        rw [List.getD_eq_getElem?_getD, List.getD_eq_getElem?_getD, List.getElem?_take_of_lt (by omega)]
      rw [e]
      exact h.r.d i (by omega)
    · rcases List.mem_append.1 ha with ha | ha
      · exact h.ao a ha
      · rw [List.mem_singleton.1 ha, lastOf_eq (by omega)]
        exact h.al _ (acN_mem (by omega))
    · have := h.n
      show (S.log.take (S.log.length - 1)).length + (S.on ++ [lastOf S.log]).length ≤ N
      rw [List.length_append, List.length_singleton, l1]
      omega
    · show shN (S.sh.take (S.sh.length - 1)) 0 = s0
      rw [shN_take (by omega)]
      exact h.z
theorem inv_redo {P : Puz} {s0 : Sht} {N : Nat} {S : SS} (h : Inv P s0 N S) : Inv P s0 N (sRedo P S).1 := by
  unfold sRedo
  split
  · exact h
  · rename_i hl
    have hN : 1 ≤ N := by have := h.n; omega
    have h2 : Inv P s0 (N - 1) ⟨S.sh, S.log, S.on.take (S.on.length - 1)⟩ := ⟨h.r, h.s, h.al, fun a ha => h.ao a (List.mem_of_mem_take ha), by
      have := h.n
      show S.log.length + (S.on.take (S.on.length - 1)).length ≤ N - 1
      rw [List.length_take]
      omega, h.z⟩
    have h3 := inv_act h2 (a := lastOf S.on) (by rw [lastOf_eq (by omega)]; exact h.ao _ (acN_mem (by omega)))
    rw [show N - 1 + 1 = N by omega] at h3
    exact h3
theorem inv_ok {P : Puz} {s0 : Sht} {N : Nat} {S : SS} (hz : PuzS P.t P.cells P.clues) (h : Inv P s0 N S) (hN : N ≤ 1000) : SesOk P S := by
  have := h.r.n
  have := h.n
  exact ⟨hz, by omega, by omega, by omega, by omega, fun s hs => (h.s s hs).small hz.l, h.ao⟩
theorem do_kind {P : Puz} {s x : Sht} {a : Act3} (h : doP P s a = (x, 0)) : (1 ≤ a.f0 ∧ a.f0 ≤ 7) ∧ (a.f0 ≠ 1 → a.f2.toList = []) ∧ (a.f0 ≠ 3 → a.f1 = 0) ∧ (a.f0 = 3 → gopen P.bl a.f1 = true) := by
  unfold doP at h
  injection h with h1 h2
  unfold doOf at h2
  split at h2
  · rename_i hc
    split at h2
    · exact absurd h2 (by decide)
    · rename_i hb
      have hb2 : badAct a.f0 a.f1 a.f2 = false := by simpa using hb
      obtain ⟨hk, hx, hcc⟩ := badAct_no hb2
      refine ⟨hk, hx, hcc, fun h3 => ?_⟩
      unfold doAct at h2
      rw [if_neg (by omega), if_neg (by omega), if_pos h3] at h2
      split at h2
      · assumption
      · exact absurd h2 (by decide)
  · rename_i hc
    exact absurd h2 hc
end Go.Proofs.YtjopbfidjapmbaaGreatDoor.Q
end
section
namespace Go.Proofs.YtjopbfidjapmbaaGreatDoor.Q
open Go.RowKit Go.Proofs.YtjopbfidjapmbaaGreatDoorW.PrintWords Go.Proofs.YtjopbfidjapmbaaGreatDoorW.PrintLast Go.Proofs.YtjopbfidjapmbaaGreatDoorW.PrintMore
set_option linter.unusedVariables false
set_option linter.unusedSimpArgs false
open Go.Proofs.YtjopbfidjapmbaaGreatDoorS
def kRow : List Bool := List.replicate 2 false
def kCells : List ByteArray := [⟨#[67]⟩, ⟨#[67, 72]⟩]
def kClues : List ByteArray := [⟨#[]⟩]
def kPuz : Puz := ⟨⟨#[]⟩, 1, 2, kRow, kRow, kRow, kCells, kClues⟩
def kS0 : Sht := (List.replicate 2 ⟨#[]⟩, List.replicate 2 false, 0, false)
def kS1 : Sht := ([⟨#[67]⟩, ⟨#[]⟩], [true, false], 1, false)
def kAct1 : Act3 := ⟨1, 0, ⟨#[99]⟩⟩
theorem kstart : sstart ⟨#[]⟩ 1 2 kRow kRow kRow kCells kClues = (kS0.1, kS0.2.1, kS0.2.2.1, kS0.2.2.2, 0) := by decide +kernel
theorem kdo0 : doOf ⟨#[]⟩ 1 2 kRow kRow kRow kCells kClues (List.replicate 2 ⟨#[]⟩) (List.replicate 2 false) 0 false 1 0 ⟨#[99]⟩ = ([⟨#[67]⟩, ⟨#[]⟩], [true, false], 1, false, 0) := by decide +kernel
theorem kdo : doP kPuz kS0 kAct1 = (kS1, 0) := by unfold doP kPuz kS0 kS1 kAct1; dsimp only; rw [kdo0]
theorem ksmall {l : List ByteArray} (h : l.all (fun s => decide (s.size ≤ 1048576)) = true) : Small l := fun s hs => of_decide_eq_true (List.all_eq_true.1 h s hs)
theorem kz : PuzS ⟨#[]⟩ kCells kClues := ⟨by decide, ksmall (by decide +kernel), ksmall (by decide +kernel), by decide, by decide⟩
theorem kok {sh : List Sht} {log on : List Act3} (h1 : 0 < sh.length) (hl : sh.length ≤ 1000000) (hl2 : log.length ≤ 1000000) (hl3 : on.length ≤ 1000000) (hs : ∀ s ∈ sh, s = kS0 ∨ s = kS1) (ha : ∀ a ∈ on, a = kAct1) : SesOk kPuz ⟨sh, log, on⟩ :=
  ⟨kz, h1, hl, hl2, hl3, fun s h => by
    rcases hs s h with rfl | rfl
    · exact ⟨ksmall (by decide +kernel), by decide, by decide⟩
    · exact ⟨ksmall (by decide +kernel), by decide, by decide⟩, fun a h => by
    obtain rfl := ha a h
    decide⟩
theorem kok2 : SesOk kPuz ⟨[kS0, kS1], [kAct1], []⟩ := kok (by decide) (by decide) (by decide) (by decide) (by intro s hs; rcases List.mem_cons.1 hs with rfl | hs; exact .inl rfl; exact .inr (List.mem_singleton.1 hs)) (by intro a ha; cases ha)
theorem kdo1 : sDo kPuz ⟨[kS0], [], []⟩ kAct1 = (⟨[kS0, kS1], [kAct1], []⟩, 0) := sDo_ok (by decide) kdo
theorem kundo : sUndo ⟨[kS0, kS1], [kAct1], []⟩ = (⟨[kS0], [], [kAct1]⟩, 0) := rfl
theorem kredo : sRedo kPuz ⟨[kS0], [], [kAct1]⟩ = (⟨[kS0, kS1], [kAct1], []⟩, 0) := by
  show sAct kPuz ⟨[kS0], [], []⟩ kAct1 = _
  unfold sAct
  rw [show topOf (SS.sh ⟨[kS0], [], []⟩) = kS0 from rfl, kdo]
  rfl
theorem SesT.of {own : Nat → Prop} {w : World} {base g : Nat} {P : Puz} {S : SS} (h : Ses own w base g P S) : SesT (fun k => own k ∧ k < w.heap.size) w base g P S := by
  obtain ⟨_, _, _, _, _, _, _, _, hs⟩ := h
  exact ⟨⟨_, _, _, _, _, _, _, _, hs.trim⟩, fun k hk => hk.2⟩
theorem below_low {w w1 w2 w3 : World} (h : Below w1.heap.size w2 w3) (k : Below w.heap.size w w1) : Below w.heap.size w2 w3 := h.mono k.size
theorem run_field0 (w : World) (b c d : Value) (A : Option Addr) (n m : Nat) : (Instr.field 57 (.agg #[.slice A n m, b, c, d]) 0).run Tryz.prog w = .ok (.slice A n m) w := by kernel_rfl
def awake24.T1 : Bool × List (List Nat × List Nat) := (true, [([], []), ([], []), ([], []), ([0, 1, 2], [0, 1, 2]), ([], []), ([], []), ([3, 4, 5], [3, 4, 5]), ([], []), ([7, 6, 0, 1, 2, 3, 4, 5, 6, 7], [6, 7])])
def awake24.B1 : List Nat := [0, 0, 0, 7, 0, 0, 63, 0, 255]
theorem awake24.tab1 : rtab .any (opsOf Tryz.f5 1) = awake24.T1 := by kernel_rfl
theorem awake24.bits1 : waitsOk awake24.T1.2 awake24.B1 = true := by kernel_rfl
set_option maxHeartbeats 8000000 in
set_option maxRecDepth 1000000 in
theorem rebuslaw24_awake.calls {w : World} (hT : Tabs w) :
    Calls Tryz.prog 5 #[] w fun e w' => e = .returned (.bool true) ∧ Below w.heap.size w w' := by
  have hu27 := Tryz.underlying42
  have hu24 := Tryz.underlying39
  have hu36 := Tryz.underlying35
  have hu38 := Tryz.underlying57
  go_enter Tryz.func5, Tryz.ntmps5
  go_wp2
  have HB := below_drew (Below.refl w.heap.size w)
  obtain ⟨g, hg⟩ : ∃ g, w.heap.size = g := ⟨_, rfl⟩
  refine start_ (n := 9) (S := fun w' => True) (ds := []) #[false, false, false, false, false, false, false, false, false] (by kernel_rfl) rfl rfl trivial (fun hHeld => ?_)
  refine with_tabW awake24.tab1 awake24.bits1 (fun HT_ HW_ => ?_)
  generalize w.drew = w3 at HB hHeld ⊢
  rw [hg] at HB
  refine inv_at [0, 1, 2, 3, 4, 5, 6, 7, 8] (fun a0_ b a w' => ∃ v0 v1 v2 v3 v4 m3 m6 : Value, ∃ gp : Nat, a = putSel a0_ b [(0, 4, v0), (1, 5, v1), (2, 6, v2), (3, 7, m3), (4, 8, v3), (5, 9, v4), (6, 10, m6), (7, 1, .pointer (some ⟨gp, 0, none⟩))] ∧ (b 7 = true → b 8 = false → g ≤ gp ∧ w'.heap[gp]? = some (.cells #[.string (⟨#[]⟩ : ByteArray), .int .i64 0, .int .i64 0, .slice none 0 0, .slice none 0 0, .slice none 0 0, .slice none 0 0, .slice none 0 0] 42 (0, 0))) ∧ Below g w w' ∧ (b 0 = true → Kd.R Kd.bool 4 w' g (fun _ => True) v0 kRow) ∧ (b 1 = true → Kd.R Kd.bool 4 w' g (fun _ => True) v1 kRow) ∧ (b 2 = true → Kd.R Kd.bool 4 w' g (fun _ => True) v2 kRow) ∧ (b 4 = true → Kd.R Kd.string 9 w' g (fun _ => True) v3 kCells) ∧ (b 5 = true → Kd.R Kd.string 9 w' g (fun _ => True) v4 kClues) ∧ (b 8 = true → g ≤ gp ∧ w'.heap[gp]? = some (.cells #[.string (⟨#[]⟩ : ByteArray), .int .i64 1, .int .i64 2, v0, v1, v2, v3, v4] 42 (0, 0))) ∧ (b 3 = true → m3 = .agg #[.int .i64 1, .int .i64 2, v0, v1, v2]) ∧ (b 6 = true → m6 = .agg #[.string (⟨#[]⟩ : ByteArray), .int .i64 1, .int .i64 2, v0, v1, v2, v3, v4])) HT_.out HW_.out (by kernel_rfl) (by kernel_rfl) ?_ ?_ ?_
  · exact ⟨.bool false, .bool false, .bool false, .bool false, .bool false, .bool false, .bool false, 0, by simp only [putSel, Bool.false_eq_true, if_false], fun h_ => absurd h_ (by decide), HB, fun h_ => absurd h_ (by decide), fun h_ => absurd h_ (by decide), fun h_ => absurd h_ (by decide), fun h_ => absurd h_ (by decide), fun h_ => absurd h_ (by decide), fun h_ => absurd h_ (by decide), fun h_ => absurd h_ (by decide), fun h_ => absurd h_ (by decide)⟩
  · clear HB
    refine steps_cons ?_ ?_
    · rintro b a w' ⟨v0, v1, v2, v3, v4, m3, m6, gp, ha, QB, QH, R0, R1, R2, R3, R4, QF, X3, X6⟩ hb_ hon hoff
      refine ⟨_, rfl, fun K hK => ?_⟩
      have hsz : g ≤ w'.heap.size := by rw [← hg]; exact QH.size
      refine Kd.R_make_step Kd.bool _ 4 (by rfl) (N := 4) rfl 37 _ _ rfl 2 rfl rfl Tryz.underlying37 (.bool false) 1 bool_info rfl (by decide) (by decide) false (ok := fun _ => True) (okp := fun _ => True) rfl (fun _ hk => hk) trivial (by decide) (by decide) (Below.refl _ _) (Nat.le_refl _) ?_
      intro v0 w4 ho hb _ _
      refine hK.out _ _ ⟨v0, v1, v2, v3, v4, m3, m6, gp, (by rw [ha]; exact putSel_upk 0 hb_ rfl rfl rfl), fun h7 h8 => ⟨(QB h7 (hoff 8 (by kernel_rfl))).1, blk_below (QB h7 (hoff 8 (by kernel_rfl))).2 hb⟩, QH.trans (hb.mono hsz), fun _ => Kd.R_lower ho hsz, fun h_ => Kd.R_below (R1 h_) hb, fun h_ => Kd.R_below (R2 h_) hb, fun h_ => Kd.R_below (R3 h_) hb, fun h_ => Kd.R_below (R4 h_) hb, fun h_ => absurd ((hoff 8 (by kernel_rfl)).symm.trans h_) (by decide), fun h_ => absurd ((hoff 3 (by kernel_rfl)).symm.trans h_) (by decide), fun h_ => absurd ((hoff 6 (by kernel_rfl)).symm.trans h_) (by decide)⟩
    refine steps_cons ?_ ?_
    · rintro b a w' ⟨v0, v1, v2, v3, v4, m3, m6, gp, ha, QB, QH, R0, R1, R2, R3, R4, QF, X3, X6⟩ hb_ hon hoff
      refine ⟨_, rfl, fun K hK => ?_⟩
      have hsz : g ≤ w'.heap.size := by rw [← hg]; exact QH.size
      refine Kd.R_make_step Kd.bool _ 4 (by rfl) (N := 5) rfl 37 _ _ rfl 2 rfl rfl Tryz.underlying37 (.bool false) 1 bool_info rfl (by decide) (by decide) false (ok := fun _ => True) (okp := fun _ => True) rfl (fun _ hk => hk) trivial (by decide) (by decide) (Below.refl _ _) (Nat.le_refl _) ?_
      intro v1 w4 ho hb _ _
      refine hK.out _ _ ⟨v0, v1, v2, v3, v4, m3, m6, gp, (by rw [ha]; exact putSel_upk 1 hb_ rfl rfl rfl), fun h7 h8 => ⟨(QB h7 (hoff 8 (by kernel_rfl))).1, blk_below (QB h7 (hoff 8 (by kernel_rfl))).2 hb⟩, QH.trans (hb.mono hsz), fun h_ => Kd.R_below (R0 h_) hb, fun _ => Kd.R_lower ho hsz, fun h_ => Kd.R_below (R2 h_) hb, fun h_ => Kd.R_below (R3 h_) hb, fun h_ => Kd.R_below (R4 h_) hb, fun h_ => absurd ((hoff 8 (by kernel_rfl)).symm.trans h_) (by decide), fun h_ => absurd ((hoff 3 (by kernel_rfl)).symm.trans h_) (by decide), fun h_ => absurd ((hoff 6 (by kernel_rfl)).symm.trans h_) (by decide)⟩
    refine steps_cons ?_ ?_
    · rintro b a w' ⟨v0, v1, v2, v3, v4, m3, m6, gp, ha, QB, QH, R0, R1, R2, R3, R4, QF, X3, X6⟩ hb_ hon hoff
      refine ⟨_, rfl, fun K hK => ?_⟩
      have hsz : g ≤ w'.heap.size := by rw [← hg]; exact QH.size
      refine Kd.R_make_step Kd.bool _ 4 (by rfl) (N := 6) rfl 37 _ _ rfl 2 rfl rfl Tryz.underlying37 (.bool false) 1 bool_info rfl (by decide) (by decide) false (ok := fun _ => True) (okp := fun _ => True) rfl (fun _ hk => hk) trivial (by decide) (by decide) (Below.refl _ _) (Nat.le_refl _) ?_
      intro v2 w4 ho hb _ _
      refine hK.out _ _ ⟨v0, v1, v2, v3, v4, m3, m6, gp, (by rw [ha]; exact putSel_upk 2 hb_ rfl rfl rfl), fun h7 h8 => ⟨(QB h7 (hoff 8 (by kernel_rfl))).1, blk_below (QB h7 (hoff 8 (by kernel_rfl))).2 hb⟩, QH.trans (hb.mono hsz), fun h_ => Kd.R_below (R0 h_) hb, fun h_ => Kd.R_below (R1 h_) hb, fun _ => Kd.R_lower ho hsz, fun h_ => Kd.R_below (R3 h_) hb, fun h_ => Kd.R_below (R4 h_) hb, fun h_ => absurd ((hoff 8 (by kernel_rfl)).symm.trans h_) (by decide), fun h_ => absurd ((hoff 3 (by kernel_rfl)).symm.trans h_) (by decide), fun h_ => absurd ((hoff 6 (by kernel_rfl)).symm.trans h_) (by decide)⟩
    refine steps_cons ?_ ?_
    · rintro b a w' ⟨v0, v1, v2, v3, v4, m3, m6, gp, ha, QB, QH, R0, R1, R2, R3, R4, QF, X3, X6⟩ hb_ hon hoff
      refine ⟨_, rfl, fun K hK => ?_⟩
      have hsz : g ≤ w'.heap.size := by rw [← hg]; exact QH.size
      have e0 : a.tmps[4]? = some v0 := by rw [ha]; exact putSel_on (e := (0, 4, v0)) 0 rfl rfl (hon 0 (by kernel_rfl)) rfl
      have e1 : a.tmps[5]? = some v1 := by rw [ha]; exact putSel_on (e := (1, 5, v1)) 1 rfl rfl (hon 1 (by kernel_rfl)) rfl
      have e2 : a.tmps[6]? = some v2 := by rw [ha]; exact putSel_on (e := (2, 6, v2)) 2 rfl rfl (hon 2 (by kernel_rfl)) rfl
      replace ha := Aside0.mk ha
      obtain ⟨A0, n0, c0, rfl⟩ := R_slice3 (R0 (hon 0 (by kernel_rfl)))
      obtain ⟨A1, n1, c1, rfl⟩ := R_slice3 (R1 (hon 1 (by kernel_rfl)))
      obtain ⟨A2, n2, c2, rfl⟩ := R_slice3 (R2 (hon 2 (by kernel_rfl)))
      refine value_ (w1 := w') (v := .agg #[.int .i64 1, .int .i64 2, .slice A0 n0 c0, .slice A1 n1 c1, .slice A2 n2 c2]) (by rfl) rfl ?_ ?_
      · go_simp
        (try simp only [i64_w])
        try rfl
      exact hK.out _ _ ⟨.slice A0 n0 c0, .slice A1 n1 c1, .slice A2 n2 c2, v3, v4, (.agg #[.int .i64 1, .int .i64 2, .slice A0 n0 c0, .slice A1 n1 c1, .slice A2 n2 c2]), m6, gp, (by rw [ha.out]; exact putSel_upk 3 hb_ rfl rfl rfl), fun h7 h8 => QB h7 (hoff 8 (by kernel_rfl)), QH, R0, R1, R2, R3, R4, fun h_ => absurd ((hoff 8 (by kernel_rfl)).symm.trans h_) (by decide), fun _ => rfl, fun h_ => absurd ((hoff 6 (by kernel_rfl)).symm.trans h_) (by decide)⟩
    refine steps_cons ?_ ?_
    · rintro b a w' ⟨v0, v1, v2, v3, v4, m3, m6, gp, ha, QB, QH, R0, R1, R2, R3, R4, QF, X3, X6⟩ hb_ hon hoff
      refine ⟨_, rfl, fun K hK => ?_⟩
      have hsz : g ≤ w'.heap.size := by rw [← hg]; exact QH.size
      refine Kd.R_lit_step Kd.string _ 9 ?hg (N := 8) ?hd (xs := ([(⟨#[67]⟩ : ByteArray), (⟨#[67, 72]⟩ : ByteArray)] : List ByteArray)) (inner := [.string (⟨#[67]⟩ : ByteArray), .string (⟨#[67, 72]⟩ : ByteArray)]) (ok := fun _ => True) (okp := fun _ => True) ?hr ?hp (fun _ hk => hk) trivial (Below.refl _ _) (Nat.le_refl _) (by simp) ?_; (case hd => rfl); (case hg => rfl); (case hr => first | (go_simp; done) | (go_simp; rfl)); (case hp => exact (Reps.one (show Kd.M Kd.string _ _ _ (⟨#[67]⟩ : ByteArray) [.string (⟨#[67]⟩ : ByteArray)] from rfl) (Reps.one (show Kd.M Kd.string _ _ _ (⟨#[67, 72]⟩ : ByteArray) [.string (⟨#[67, 72]⟩ : ByteArray)] from rfl) (Reps.none _ _))))
      intro v3 w4 ho hb _ _
      refine hK.out _ _ ⟨v0, v1, v2, v3, v4, m3, m6, gp, (by rw [ha]; exact putSel_upk 4 hb_ rfl rfl rfl), fun h7 h8 => ⟨(QB h7 (hoff 8 (by kernel_rfl))).1, blk_below (QB h7 (hoff 8 (by kernel_rfl))).2 hb⟩, QH.trans (hb.mono hsz), fun h_ => Kd.R_below (R0 h_) hb, fun h_ => Kd.R_below (R1 h_) hb, fun h_ => Kd.R_below (R2 h_) hb, fun _ => Kd.R_lower ho hsz, fun h_ => Kd.R_below (R4 h_) hb, fun h_ => absurd ((hoff 8 (by kernel_rfl)).symm.trans h_) (by decide), fun h_ => X3 h_, fun h_ => absurd ((hoff 6 (by kernel_rfl)).symm.trans h_) (by decide)⟩
    refine steps_cons ?_ ?_
    · rintro b a w' ⟨v0, v1, v2, v3, v4, m3, m6, gp, ha, QB, QH, R0, R1, R2, R3, R4, QF, X3, X6⟩ hb_ hon hoff
      refine ⟨_, rfl, fun K hK => ?_⟩
      have hsz : g ≤ w'.heap.size := by rw [← hg]; exact QH.size
      refine Kd.R_lit_step Kd.string _ 9 ?hg (N := 9) ?hd (xs := ([(⟨#[]⟩ : ByteArray)] : List ByteArray)) (inner := [.string (⟨#[]⟩ : ByteArray)]) (ok := fun _ => True) (okp := fun _ => True) ?hr ?hp (fun _ hk => hk) trivial (Below.refl _ _) (Nat.le_refl _) (by simp) ?_; (case hd => rfl); (case hg => rfl); (case hr => first | (go_simp; done) | (go_simp; rfl)); (case hp => exact (Reps.one (show Kd.M Kd.string _ _ _ (⟨#[]⟩ : ByteArray) [.string (⟨#[]⟩ : ByteArray)] from rfl) (Reps.none _ _)))
      intro v4 w4 ho hb _ _
      refine hK.out _ _ ⟨v0, v1, v2, v3, v4, m3, m6, gp, (by rw [ha]; exact putSel_upk 5 hb_ rfl rfl rfl), fun h7 h8 => ⟨(QB h7 (hoff 8 (by kernel_rfl))).1, blk_below (QB h7 (hoff 8 (by kernel_rfl))).2 hb⟩, QH.trans (hb.mono hsz), fun h_ => Kd.R_below (R0 h_) hb, fun h_ => Kd.R_below (R1 h_) hb, fun h_ => Kd.R_below (R2 h_) hb, fun h_ => Kd.R_below (R3 h_) hb, fun _ => Kd.R_lower ho hsz, fun h_ => absurd ((hoff 8 (by kernel_rfl)).symm.trans h_) (by decide), fun h_ => X3 h_, fun h_ => absurd ((hoff 6 (by kernel_rfl)).symm.trans h_) (by decide)⟩
    refine steps_cons ?_ ?_
    · rintro b a w' ⟨v0, v1, v2, v3, v4, m3, m6, gp, ha, QB, QH, R0, R1, R2, R3, R4, QF, X3, X6⟩ hb_ hon hoff
      refine ⟨_, rfl, fun K hK => ?_⟩
      have hsz : g ≤ w'.heap.size := by rw [← hg]; exact QH.size
      have e7 : a.tmps[7]? = some m3 := by rw [ha]; exact putSel_on (e := (3, 7, m3)) 3 rfl rfl (hon 3 (by kernel_rfl)) rfl
      rw [X3 (hon 3 (by kernel_rfl))] at e7
      have e8 : a.tmps[8]? = some v3 := by rw [ha]; exact putSel_on (e := (4, 8, v3)) 4 rfl rfl (hon 4 (by kernel_rfl)) rfl
      have e9 : a.tmps[9]? = some v4 := by rw [ha]; exact putSel_on (e := (5, 9, v4)) 5 rfl rfl (hon 5 (by kernel_rfl)) rfl
      replace ha := Aside0.mk ha
      obtain ⟨A0, n0, c0, rfl⟩ := R_slice3 (R0 (hon 0 (by kernel_rfl)))
      obtain ⟨A1, n1, c1, rfl⟩ := R_slice3 (R1 (hon 1 (by kernel_rfl)))
      obtain ⟨A2, n2, c2, rfl⟩ := R_slice3 (R2 (hon 2 (by kernel_rfl)))
      obtain ⟨A3, n3, c3, rfl⟩ := R_slice3 (R3 (hon 4 (by kernel_rfl)))
      obtain ⟨A4, n4, c4, rfl⟩ := R_slice3 (R4 (hon 5 (by kernel_rfl)))
      refine value_ (w1 := w') (v := .agg #[.string (⟨#[]⟩ : ByteArray), .int .i64 1, .int .i64 2, .slice A0 n0 c0, .slice A1 n1 c1, .slice A2 n2 c2, .slice A3 n3 c3, .slice A4 n4 c4]) (by rfl) rfl ?_ ?_
      · go_simp
        (try simp only [i64_w])
        try rfl
      exact hK.out _ _ ⟨.slice A0 n0 c0, .slice A1 n1 c1, .slice A2 n2 c2, .slice A3 n3 c3, .slice A4 n4 c4, m3, (.agg #[.string (⟨#[]⟩ : ByteArray), .int .i64 1, .int .i64 2, .slice A0 n0 c0, .slice A1 n1 c1, .slice A2 n2 c2, .slice A3 n3 c3, .slice A4 n4 c4]), gp, (by rw [ha.out]; exact putSel_upk 6 hb_ rfl rfl rfl), fun h7 h8 => QB h7 (hoff 8 (by kernel_rfl)), QH, R0, R1, R2, R3, R4, fun h_ => absurd ((hoff 8 (by kernel_rfl)).symm.trans h_) (by decide), X3, fun _ => rfl⟩
    refine steps_cons ?_ ?_
    · rintro b a w' ⟨v0, v1, v2, v3, v4, m3, m6, gp, ha, QB, QH, R0, R1, R2, R3, R4, QF, X3, X6⟩ hb_ hon hoff
      refine ⟨_, rfl, fun K hK => ?_⟩
      have hsz : g ≤ w'.heap.size := by rw [← hg]; exact QH.size
      have hb := below_alloc (Below.refl w'.heap.size w') (.cells #[.string (⟨#[]⟩ : ByteArray), .int .i64 0, .int .i64 0, .slice none 0 0, .slice none 0 0, .slice none 0 0, .slice none 0 0, .slice none 0 0] 42)
      refine value_ (w1 := w'.alloc (.cells #[.string (⟨#[]⟩ : ByteArray), .int .i64 0, .int .i64 0, .slice none 0 0, .slice none 0 0, .slice none 0 0, .slice none 0 0, .slice none 0 0] 42)) (v := .pointer (some ⟨w'.heap.size, 0, none⟩)) (by rfl) rfl (by first | (go_simp; done) | (go_simp; rfl)) ?_
      have hn := blk_new w' (.cells #[.string (⟨#[]⟩ : ByteArray), .int .i64 0, .int .i64 0, .slice none 0 0, .slice none 0 0, .slice none 0 0, .slice none 0 0, .slice none 0 0] 42)
      exact hK.out _ _ ⟨v0, v1, v2, v3, v4, m3, m6, w'.heap.size, (by rw [ha]; exact putSel_upk 7 hb_ rfl rfl rfl), fun _ _ => ⟨hsz, hn⟩, QH.trans (hb.mono hsz), fun h_ => Kd.R_below (R0 h_) hb, fun h_ => Kd.R_below (R1 h_) hb, fun h_ => Kd.R_below (R2 h_) hb, fun h_ => Kd.R_below (R3 h_) hb, fun h_ => Kd.R_below (R4 h_) hb, fun h_ => absurd ((hoff 8 (by kernel_rfl)).symm.trans h_) (by decide), fun h_ => X3 h_, fun h_ => X6 h_⟩
    refine steps_cons ?_ ?_
    · rintro b a w' ⟨v0, v1, v2, v3, v4, m3, m6, gp, ha, QB, QH, R0, R1, R2, R3, R4, QF, X3, X6⟩ hb_ hon hoff
      refine ⟨_, rfl, fun K hK => ?_⟩
      have hsz : g ≤ w'.heap.size := by rw [← hg]; exact QH.size
      have e1 : a.tmps[1]? = some (.pointer (some ⟨gp, 0, none⟩)) := by rw [ha]; exact putSel_on (e := (7, 1, .pointer (some ⟨gp, 0, none⟩))) 7 rfl rfl (hon 7 (by kernel_rfl)) rfl
      have e10 : a.tmps[10]? = some m6 := by rw [ha]; exact putSel_on (e := (6, 10, m6)) 6 rfl rfl (hon 6 (by kernel_rfl)) rfl
      rw [X6 (hon 6 (by kernel_rfl))] at e10
      replace ha := Aside0.mk ha
      obtain ⟨hge, hB⟩ := QB (hon 7 (by kernel_rfl)) hb_
      obtain ⟨A0, n0, c0, rfl⟩ := R_slice3 (R0 (hon 0 (by kernel_rfl)))
      obtain ⟨A1, n1, c1, rfl⟩ := R_slice3 (R1 (hon 1 (by kernel_rfl)))
      obtain ⟨A2, n2, c2, rfl⟩ := R_slice3 (R2 (hon 2 (by kernel_rfl)))
      obtain ⟨A3, n3, c3, rfl⟩ := R_slice3 (R3 (hon 4 (by kernel_rfl)))
      obtain ⟨A4, n4, c4, rfl⟩ := R_slice3 (R4 (hon 5 (by kernel_rfl)))
      obtain ⟨s0, s1, s2, s3, s4, s5, s6, s7⟩ := cells8 hB
      have f0 := blk_frozen hB 0
      have f1 := blk_frozen hB 1
      have f2 := blk_frozen hB 2
      have f3 := blk_frozen hB 3
      have f4 := blk_frozen hB 4
      have f5 := blk_frozen hB 5
      have f6 := blk_frozen hB 6
      have f7 := blk_frozen hB 7
      obtain ⟨p1, p2, p3⟩ := put8_facts hB (.string (⟨#[]⟩ : ByteArray)) (.int .i64 1) (.int .i64 2) (.slice A0 n0 c0) (.slice A1 n1 c1) (.slice A2 n2 c2) (.slice A3 n3 c3) (.slice A4 n4 c4)
      replace hB := Aside0.mk hB
      refine skip_ (w1 := put8 w' gp (.string (⟨#[]⟩ : ByteArray)) (.int .i64 1) (.int .i64 2) (.slice A0 n0 c0) (.slice A1 n1 c1) (.slice A2 n2 c2) (.slice A3 n3 c3) (.slice A4 n4 c4)) (by rfl) rfl ?_ ?_
      · clear p1 p2 p3
        go_simp
        rfl
      exact hK.out _ _ ⟨.slice A0 n0 c0, .slice A1 n1 c1, .slice A2 n2 c2, .slice A3 n3 c3, .slice A4 n4 c4, m3, m6, gp, (by rw [ha.out]; exact putSel_none (v := undef) rfl), fun _ h0_ => absurd ((up_self b 8).symm.trans h0_) (by decide), p3 _ _ QH hge, fun h_ => R_of_heap (R0 h_) hB.out (by decide) p2, fun h_ => R_of_heap (R1 h_) hB.out (by decide) p2, fun h_ => R_of_heap (R2 h_) hB.out (by decide) p2, fun h_ => R_of_heap (R3 h_) hB.out (by decide) p2, fun h_ => R_of_heap (R4 h_) hB.out (by decide) p2, fun _ => ⟨hge, p1⟩, X3, X6⟩
    exact steps_nil
  rintro b a w' hall ⟨v0, v1, v2, v3, v4, m3, m6, gp, ha, QB, QH, R0, R1, R2, R3, R4, QF, X3, X6⟩
  have hb0_ := hall 0 (by kernel_rfl)
  have hb1_ := hall 1 (by kernel_rfl)
  have hb2_ := hall 2 (by kernel_rfl)
  have hb3_ := hall 3 (by kernel_rfl)
  have hb4_ := hall 4 (by kernel_rfl)
  have hb5_ := hall 5 (by kernel_rfl)
  have hb6_ := hall 6 (by kernel_rfl)
  have hb7_ := hall 7 (by kernel_rfl)
  have hb8_ := hall 8 (by kernel_rfl)
  subst ha
  obtain ⟨hge, hF⟩ := QF hb8_
  replace hF := Lib.hid hF
  replace hge := Lib.hid hge
  have R0' := Lib.hid (R0 hb0_)
  have R1' := Lib.hid (R1 hb1_)
  have R2' := Lib.hid (R2 hb2_)
  have R3' := Lib.hid (R3 hb4_)
  have R4' := Lib.hid (R4 hb5_)
  have QH' := Lib.hid QH
  simp only [putSel, hb0_, hb1_, hb2_, hb3_, hb4_, hb5_, hb6_, hb7_, if_true, Act.put, List.setIfInBounds_toArray, List.set_cons_zero, List.set_cons_succ]
  clear QB QF R0 R1 R2 R3 R4 X3 X6 QH hall hb0_ hb1_ hb2_ hb3_ hb4_ hb5_ hb6_ hb7_ hb8_ HB
  subst hg
  obtain ⟨A0, c0, rfl, k0, C0⟩ := Kd.R_reads R0'.out
  obtain ⟨A1, c1, rfl, k1, C1⟩ := Kd.R_reads R1'.out
  obtain ⟨A2, c2, rfl, k2, C2⟩ := Kd.R_reads R2'.out
  obtain ⟨A3, c3, rfl, k3, C3⟩ := Kd.R_reads R3'.out
  obtain ⟨A4, c4, rfl, k4, C4⟩ := Kd.R_reads R4'.out
  have hP := Lib.hid (PuzR.mk C0 k0 C1 k1 C2 k2 C3 k3 C4 k4)
  clear R0' R1' R2' R3' R4' C0 C1 C2 C3 C4 k0 k1 k2 k3 k4
  have x8 := cells8 hF.out
  have hT1 := Lib.hid (tabs_below hT QH'.out)
  have hst := kstart
  have hnew := Lib.hid (new_calls (H := 1) (W := 2) hT1.out hP.out kz (by decide) (by decide) (by decide))
  rw [kstart] at hnew
  have tok1 : True := trivial
  have tok2 : True := trivial
  have tok3 : True := trivial
  have tok4 : True := trivial
  clear hst x8
  have x8 := cells8 hF.out
  go_wp2_with (first
    | (go_at_call 11; go_must (refine hnew.out.mono ?_; rintro e w2 hN; rcases hN with ⟨h, _⟩ | ⟨_, g2, rfl, hS, hb⟩; (exact absurd rfl h); have hS2 := Lib.hid (show SesT (fun k => w'.heap.size ≤ k ∧ k < w2.heap.size) w2 w'.heap.size g2 kPuz ⟨[kS0], [], []⟩ from SesT.of hS); have hB2 := Lib.hid (below_step QH'.out hb); clear hS hb))
    | (go_at_call 13; go_must (refine (wdo (a := kAct1) (tabs_below hT hB2.out) hS2.out (kok (by decide) (by decide) (by decide) (by decide) (by intro s hs; exact .inl (List.mem_singleton.1 hs)) (by intro a ha; cases ha)) (by decide)).mono ?_; rw [kdo1]; rintro e w3 ⟨rfl, hS, hk, hb⟩; have hS3 := Lib.hid hS; have hB3 := Lib.hid (hB2.out.trans (below_low hb QH'.out)); clear hS hk hb))
    | (go_at_call 16; go_must (refine (wlog hS3.out kok2).mono ?_; rintro e w4 ⟨u, rfl, hr, hb, hS⟩; obtain ⟨Dl, kl, rfl⟩ := Kd.R_slice hr; rw [show (SS.log ⟨[kS0, kS1], [kAct1], []⟩).length = 1 from rfl]; have hS4 := Lib.hid hS; have hB4 := Lib.hid (below_step hB3.out hb); clear hS hb hr))
    | (go_at_call 19; have tq := tok1; go_must (clear tq tok1; refine (wsheet hS4.out kok2).mono ?_; rw [show topOf (SS.sh ⟨[kS0, kS1], [kAct1], []⟩) = kS1 from rfl]; rintro e w5 ⟨u0, u1, rfl, h0, h1, hb, hS⟩; obtain ⟨D0, k0, rfl⟩ := Kd.R_slice h0; obtain ⟨D1, k1, rfl⟩ := Kd.R_slice h1; rw [show kS1.1.length = 2 from rfl]; have hS5 := Lib.hid hS; have hB5 := Lib.hid (below_step hB4.out hb); clear hS hb h0 h1))
    )
  rw [run_field0]
  simp only [Result.andThen]
  rw [Oper.upon_value]
  go_wp2_with (first
    | (go_at_call 19; have tq := tok2; go_must (clear tq tok2; refine (wsheet hS5.out kok2).mono ?_; rw [show topOf (SS.sh ⟨[kS0, kS1], [kAct1], []⟩) = kS1 from rfl]; rintro e w6 ⟨u0, u1, rfl, h0, h1, hb, hS⟩; obtain ⟨D2, k2, rfl⟩ := Kd.R_slice h0; obtain ⟨D3, k3, rfl⟩ := Kd.R_slice h1; obtain ⟨ad2, eA2, z2⟩ := Kd.at_string (Kd.R_reads' h0).2.2 0 (by decide) (by decide); cases eA2; rw [show ad2.add (Int.toNat 0) = ad2 from rfl] at z2; rw [show rdOf ByteArray.empty kS1.1 0 = ⟨#[67]⟩ from rfl] at z2; rw [show kS1.1.length = 2 from rfl]; have hS6 := Lib.hid hS; have hB6 := Lib.hid (below_step hB5.out hb); clear hS hb h0 h1))
    )
  rw [run_field0]
  simp only [Result.andThen]
  rw [Oper.upon_value]
  go_wp2_with (first
    | (go_at_call 14; go_must (refine (wundo hS6.out kok2).mono ?_; rw [kundo]; rintro e w7 ⟨rfl, hS, hk, hb⟩; have hS7 := Lib.hid hS; have hB7 := Lib.hid (hB6.out.trans (below_low hb QH'.out)); clear hS hk hb))
    | (go_at_call 20; have tq := tok3; go_must (clear tq tok3; refine (won hS7.out).mono ?_; rintro e w8 ⟨rfl, hb, hS⟩; rw [show (SS.on ⟨[kS0], [], [kAct1]⟩).length = 1 from rfl]; have hS8 := Lib.hid hS; have hB8 := Lib.hid (below_step hB7.out hb); clear hS hb))
    | (go_at_call 15; go_must (refine (wredo (fun w2 h => tabs_below hT (hB8.out.trans (below_low h QH'.out))) hS8.out (kok (by decide) (by decide) (by decide) (by decide) (by intro s hs; exact .inl (List.mem_singleton.1 hs)) (by intro a ha; exact List.mem_singleton.1 ha))).mono ?_; rw [kredo]; rintro e w9 ⟨rfl, hS, hk, hb⟩; have hS9 := Lib.hid hS; have hB9 := Lib.hid (hB8.out.trans (below_low hb QH'.out)); clear hS hk hb))
    | (go_at_call 20; have tq := tok4; go_must (clear tq tok4; refine (won hS9.out).mono ?_; rintro e w10 ⟨rfl, hb, hS⟩; rw [show (SS.on ⟨[kS0, kS1], [kAct1], []⟩).length = 0 from rfl]; have hB10 := Lib.hid (below_step hB9.out hb); clear hS hb))
    )
  go_ret
  exact ⟨rfl, hB10.out⟩
end Go.Proofs.YtjopbfidjapmbaaGreatDoor.Q
end
