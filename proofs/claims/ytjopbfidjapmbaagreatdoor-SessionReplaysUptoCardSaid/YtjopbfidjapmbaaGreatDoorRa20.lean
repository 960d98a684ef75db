/-
  SessionReplays, WHERE WHAT IT READS IS OF BULK AT MOST 1048576: IT RETURNS true (the log, played anew, leads to the same sheet and log), AND ITS ARGUMENTS READ AS THEY DID. The card ties utf8's two tables to the program's text.
-/
import Derived.Test.YtjopbfidjapmbaaGreatDoorCards
import Derived.Test.YtjopbfidjapmbaaGreatDoorTie
import Derived.Test.YtjopbfidjapmbaaGreatDoorRa11
import Derived.Test.YtjopbfidjapmbaaGreatDoorRa12
import Derived.Test.YtjopbfidjapmbaaGreatDoorRa16
import Derived.Test.YtjopbfidjapmbaaGreatDoorRa18
import Derived.Test.YtjopbfidjapmbaaGreatDoorRa19
set_option linter.unusedVariables false
set_option linter.unusedSimpArgs false
section
namespace Go.Proofs.YtjopbfidjapmbaaGreatDoor.Q
open Go.RowKit Go.Proofs.YtjopbfidjapmbaaGreatDoorW.PrintWords Go.Proofs.YtjopbfidjapmbaaGreatDoorW.PrintLast Go.Proofs.YtjopbfidjapmbaaGreatDoorW.PrintMore
set_option linter.unusedVariables false
set_option linter.unusedSimpArgs false
open Go.Proofs.YtjopbfidjapmbaaGreatDoorS
def stF (sh : List Sht) (log : List Act3) (k : Nat) : SS := ⟨sh.take (k + 1), log.take k, []⟩
theorem stF_do {P : Puz} {sh : List Sht} {log : List Act3} (h : Run P sh log) (hn : log.length < 2000) {k : Nat} (hk : k < log.length) : sDo P (stF sh log k) (acN log k) = (stF sh log (k + 1), 0) := by
  have hl := h.n
  have ht : topOf (sh.take (k + 1)) = shN sh k := top_st h (Nat.le_of_lt hk)
  have hd := h.d k hk
  unfold stF
  rw [sDo_ok (x := shN sh (k + 1)) (by rw [List.length_take]; omega) (by rw [ht]; exact hd)]
  rw [show sh.take (k + 1) ++ [shN sh (k + 1)] = sh.take (k + 1 + 1) from take_snoc _ (by omega), show log.take k ++ [acN log k] = log.take (k + 1) from take_snoc _ hk]
theorem stF_ok {P : Puz} {sh : List Sht} {log : List Act3} (hz : PuzS P.t P.cells P.clues) (h : Run P sh log) (hn : log.length ≤ 60) (hs : ∀ s ∈ sh, RSht P s) (k : Nat) : SesOk P (stF sh log k) := by
  have hl := h.n
  exact ⟨hz, by show 0 < (sh.take (k + 1)).length; rw [List.length_take]; omega, by show (sh.take (k + 1)).length ≤ 1000000; rw [List.length_take]; omega, by show (log.take k).length ≤ 1000000; rw [List.length_take]; omega, Nat.zero_le _, fun s hm => (hs s (List.mem_of_mem_take hm)).small hz.l, fun a hm => by cases hm⟩
theorem stF_0 {P : Puz} {sh : List Sht} {log : List Act3} (h : Run P sh log) : stF sh log 0 = ⟨[shN sh 0], [], []⟩ := by
  have hl := h.n
  unfold stF
  rw [← show sh.take 0 ++ [shN sh 0] = sh.take (0 + 1) from take_snoc _ (by omega)]
  rfl
theorem stF_n {P : Puz} {sh : List Sht} {log : List Act3} (h : Run P sh log) : stF sh log log.length = ⟨sh, log, []⟩ := by
  unfold stF
  rw [← h.n, List.take_length, List.take_length]
set_option maxHeartbeats 8000000 in
set_option maxRecDepth 1000000 in
theorem play_calls {title : ByteArray} {H W : Int} {A2 : Option Addr} {c2 : Nat} {bl : List Bool} {A3 : Option Addr} {c3 : Nat} {ri : List Bool} {A4 : Option Addr} {c4 : Nat} {be : List Bool} {A5 : Option Addr} {c5 : Nat} {cells : List ByteArray} {A6 : Option Addr} {c6 : Nat} {clues : List ByteArray} {w : World} {P : Puz} {sh : List Sht} {log : List Act3} {s0 : Sht} {text : ByteArray} (hT : Tabs w) (hP : PuzR A2 c2 bl A3 c3 ri A4 c4 be A5 c5 cells A6 c6 clues w) (hz : PuzS title cells clues) (h2 : bl.length ≤ 1048576) (h3 : ri.length ≤ 1048576) (h4 : be.length ≤ 1048576) (hPz : (⟨title, H, W, bl, ri, be, cells, clues⟩ : Puz) = P) (hr : sstart title H W bl ri be cells clues = (s0.1, s0.2.1, s0.2.2.1, s0.2.2.2, 0)) (hrun : Run P sh log) (h0 : shN sh 0 = s0) (hs : ∀ s ∈ sh, RSht P s) (hg : ∀ a ∈ log, goodA a = true) (hf : ∀ a ∈ log, a.f1 ≤ 999999999) (hza : ∀ a ∈ log, a.f2.size ≤ 1048576) (ht : text.data.toList = joinL log) (hts : text.size ≤ 65536) (hn : log.length ≤ 60) :
    Calls Tryz.prog 17 #[.agg #[.string title, .int .i64 H, .int .i64 W, .slice A2 bl.length c2, .slice A3 ri.length c3, .slice A4 be.length c4, .slice A5 cells.length c5, .slice A6 clues.length c6], .string text] w fun e w' => ∃ b g own, e = .returned (.tuple #[.pointer (some ⟨g, 0, none⟩), .int .i64 0, .int .i64 0]) ∧ SesT own w' b g P ⟨sh, log, []⟩ ∧ Below w.heap.size w w' := by
  have hx := box1 w (.cells #[.string title, .int .i64 H, .int .i64 W, .slice A2 bl.length c2, .slice A3 ri.length c3, .slice A4 be.length c4, .slice A5 cells.length c5, .slice A6 clues.length c6] 42)
  have hzP := Lib.hid (show PuzS P.t P.cells P.clues by rw [← hPz]; exact hz)
  have x0 := cells8 hx.1
  have hu27 := Tryz.underlying42
  have hu24 := Tryz.underlying39
  have hu36 := Tryz.underlying35
  replace hx := Lib.hid hx
  replace hrun := Lib.hid hrun
  replace hs := Lib.hid hs
  replace hg := Lib.hid hg
  replace hf := Lib.hid hf
  replace hza := Lib.hid hza
  replace ht := Lib.hid ht
  go_enter Tryz.func17, Tryz.ntmps17
  go_wp2_with (first
    | (go_at_call 11; go_must (refine (new_calls (tabs_below hT hx.out.2) (hP.below hx.out.2) hz h2 h3 h4).mono ?_; rw [hr]; rintro e w2 hN; rcases hN with ⟨h, _⟩ | ⟨_, g, rfl, hS, hb⟩; exact absurd rfl h; rw [hPz] at hS; have hS2 := Lib.hid (SesT.of (S := ⟨[s0], [], []⟩) hS); have hB2 := Lib.hid hb; clear hb hS))
    | (go_at_call 9; go_must (refine (read_calls (tabs_below hT (below_step hx.out.2 hB2.out)) hg.out hf.out ht.out hts (by omega)).mono ?_; rintro e w3 ⟨u, rfl, hl, hb⟩; have RG := R_mine hl hS2.out.2 hB2.out.size; have hS3 := Lib.hid (hS2.out.below hb); have hB3 := Lib.hid (below_step hB2.out hb); obtain ⟨Al, cl, rfl⟩ := Kd.R_slice RG; replace RG := Lib.hid RG; clear hl hb)))
  obtain ⟨w1, hw1⟩ : ∃ w1, w.alloc (.cells #[.string title, .int .i64 H, .int .i64 W, .slice A2 bl.length c2, .slice A3 ri.length c3, .slice A4 be.length c4, .slice A5 cells.length c5, .slice A6 clues.length c6] 42) = w1 := ⟨_, rfl⟩
  rw [hw1] at hx hB2 hS2 RG hS3 hB3
  obtain ⟨own3, hown3⟩ : ∃ o : Nat → Prop, (fun k => w1.heap.size ≤ k ∧ k < w2.heap.size) = o := ⟨_, rfl⟩
  rw [hown3] at hS3
  replace RG : Hid (Kd.R kAct 35 w3 w1.heap.size (fun k => ¬ own3 k) (.slice Al log.length cl) log) := by rw [← hown3]; exact RG
  have hbw := Lib.hid hx.out.2.size
  clear hown3 hS2 hB2 x0 hw1
  go_loopw [34] (fun v34 wr => ∃ (k : Nat) (q : Int) (own : Nat → Prop), v34 = .int .i64 q ∧ Hid (q = k ∧ k ≤ log.length) ∧ Hid (SesT own wr w1.heap.size g P (stF sh log k)) ∧ Hid (Kd.R kAct 35 wr w1.heap.size (fun k => ¬ own k) (.slice Al log.length cl) log) ∧ Hid (Below w1.heap.size w1 wr)) (fun v34 _ => log.length - (intOf v34).toNat)
  case atStart => exact ⟨0, 0, own3, rfl, Lib.hid ⟨rfl, Nat.zero_le _⟩, Lib.hid (by rw [stF_0 hrun.out, h0]; exact hS3.out), RG, hB3⟩
  case round =>
    clear hS3 RG hB3
    obtain ⟨k, q, own, rfl, hq, hS, hL, hB⟩ := hrel
    have hq0 : 0 ≤ q := by have := hq.out; omega
    by_cases hlt : k < log.length
    · have hq1 : q < (log.length : Int) := by have := hq.out; omega
      have hq3 : q < 100 := by omega
      obtain ⟨ad, eA, z0, z1, z2⟩ := at_T35 (Kd.R_reads' hL.out).2.2 q hq0 hq1
      cases eA
      obtain ⟨a, ha⟩ : ∃ a, rd_T35 log q = a := ⟨_, rfl⟩
      have hai : acN log k = a := by rw [← ha]; unfold acN rd_T35; rw [hq.out.1, Int.toNat_natCast]
      have haz := Lib.hid (hza.out a (by rw [← hai]; exact acN_mem hlt))
      have hdo := stF_do hrun.out (by omega) hlt
      rw [hai] at hdo
      rw [ha] at z0 z1 z2
      clear ha hai
      replace hdo := Lib.hid hdo
      have hok := Lib.hid (stF_ok hzP.out hrun.out hn hs.out k)
      have hY := Lib.hid (box1 wr (.cells #[.int .i64 a.f0, .int .i64 a.f1, .string a.f2] 35))
      have hS3 := Lib.hid (hS.out.below hY.out.2)
      have hL3 := Lib.hid (Kd.R_below hL.out hY.out.2)
      have hB3 := Lib.hid (hB.out.trans (hY.out.2.mono hB.out.size))
      have y3 := cells3 hY.out.1
      replace hlt := Lib.hid hlt
      go_wp2_with (first
        | (go_at_call 13; go_must (refine (wdo (tabs_below hT (below_then hx.out.2 hbw.out hB3.out)) hS3.out hok.out haz.out).mono ?_; rw [hdo.out]; rintro e w6 ⟨rfl, hS6, hk, hb⟩; have hL6 := Lib.hid (R_beside hL3.out hk); replace hS6 := Lib.hid hS6; have hB6 := Lib.hid (hB3.out.trans hb); clear hk hb)))
      refine ⟨⟨k + 1, q + 1, _, rfl, Lib.hid ⟨by have := hq.out; omega, hlt.out⟩, hS6, hL6, hB6⟩, ?_⟩
      simp only [intOf]; have := hq.out; have := hlt.out; omega
    · have hge : ¬ q < (log.length : Int) := by have := hq.out; omega
      have hk : k = log.length := by have := hq.out; omega
      subst hk
      go_wp2
      go_ret3
      exact ⟨w1.heap.size, g, rfl, ⟨own, by rw [← stF_n hrun.out]; exact hS.out⟩, below_then hx.out.2 hbw.out hB.out⟩
end Go.Proofs.YtjopbfidjapmbaaGreatDoor.Q
end
section
namespace Go.Proofs.YtjopbfidjapmbaaGreatDoor.Q
open Go.RowKit Go.Proofs.YtjopbfidjapmbaaGreatDoorW.PrintWords Go.Proofs.YtjopbfidjapmbaaGreatDoorW.PrintLast Go.Proofs.YtjopbfidjapmbaaGreatDoorW.PrintMore
set_option linter.unusedVariables false
set_option linter.unusedSimpArgs false
open Go.Proofs.YtjopbfidjapmbaaGreatDoorS
set_option maxHeartbeats 8000000 in
set_option maxRecDepth 1000000 in
theorem rebusref01_SameTexts.calls {A B : Option Addr} {c d : Nat} {l : List ByteArray} {w : World} (hl : l.length ≤ 1048576) (ha : Kd.C Kd.string w A l.length l) (hb : Kd.C Kd.string w B l.length l) :
    Calls Tryz.prog 36 #[.slice A l.length c, .slice B l.length d] w fun e w' => e = .returned (.bool true) ∧ Below w.heap.size w w' := by
  have t0 : ((l.length : Int) != (l.length : Int)) = false := by simp
  go_enter Tryz.func36, Tryz.ntmps36
  go_wp2
  go_loopw [5] (fun v5 wr => ∃ (i : Nat) (q : Int), v5 = .int .i64 q ∧ Hid (q = i ∧ i ≤ l.length) ∧ Hid (Below w.heap.size w wr)) (fun v5 _ => l.length - (intOf v5).toNat)
  case atStart => exact ⟨0, 0, rfl, Lib.hid ⟨rfl, Nat.zero_le _⟩, Lib.hid (Below.refl _ _)⟩
  case round =>
    obtain ⟨i, q, rfl, hq, hB⟩ := hrel
    by_cases hlt : i < l.length
    · have hq0 : 0 ≤ q := by have := hq.out; omega
      have hq1 : q < (l.length : Int) := by have := hq.out; omega
      have hq3 : q < 1048576 := by omega
      obtain ⟨ad, eA, z0⟩ := Kd.at_string (Kd.C_below ha hB.out) q hq0 hq1
      obtain ⟨ad2, eA2, z1⟩ := Kd.at_string (Kd.C_below hb hB.out) q hq0 hq1
      cases eA
      cases eA2
      obtain ⟨x, hx⟩ : ∃ x, rdOf ByteArray.empty l q = x := ⟨_, rfl⟩
      rw [hx] at z0 z1
      replace hlt := Lib.hid hlt
      clear hx
      go_wp2
      go_quiet (fail)
      go_wp2
      refine ⟨⟨i + 1, q + 1, rfl, Lib.hid ⟨by have := hq.out; omega, hlt.out⟩, Lib.hid (pw_below_drewN hB.out _)⟩, ?_⟩
      simp only [intOf]; have := hq.out; have := hlt.out; omega
    · have hge : ¬ q < (l.length : Int) := by have := hq.out; omega
      go_wp2
      go_ret
      exact ⟨rfl, hB.out⟩
set_option maxHeartbeats 8000000 in
set_option maxRecDepth 1000000 in
theorem rebusref23_Same.calls {A B A2 B2 : Option Addr} {c d c2 d2 : Nat} {l : List ByteArray} {b : List Bool} {at_ : Int} {dn : Bool} {w : World} (hl : l.length ≤ 1048576) (hm : b.length ≤ 1048576) (h1 : ShtR A c l B d b w) (h2 : ShtR A2 c2 l B2 d2 b w) :
    Calls Tryz.prog 18 #[.agg #[.slice A l.length c, .slice B b.length d, .int .i64 at_, .bool dn], .agg #[.slice A2 l.length c2, .slice B2 b.length d2, .int .i64 at_, .bool dn]] w fun e w' => e = .returned (.bool true) ∧ Below w.heap.size w w' := by
  have hx := box2 w (.cells #[.slice A l.length c, .slice B b.length d, .int .i64 at_, .bool dn] 57) (.cells #[.slice A2 l.length c2, .slice B2 b.length d2, .int .i64 at_, .bool dn] 57)
  replace hx := Lib.hid hx
  have hu30 := Tryz.underlying57
  have t0 : ((b.length : Int) != (b.length : Int)) = false := by simp
  have t1 : (at_ != at_) = false := by simp
  have t2 : (dn != dn) = false := by simp
  have t3 : (dn == dn) = true := by simp
  go_enter Tryz.func18, Tryz.ntmps18
  go_wp2_with (first
    | (go_at_call 36; go_must (refine (rebusref01_SameTexts.calls hl (h1.below hx.out.2.2).r7 (h2.below hx.out.2.2).r7).mono ?_; rintro e w3 ⟨rfl, hb3⟩; have hB3 := Lib.hid (below_step hx.out.2.2 hb3); have bP := Lib.hid (blk_below hx.out.1 hb3); have bS := Lib.hid (blk_below hx.out.2.1 hb3); have p3 := cells4 bP.out; have q3 := cells4 bS.out; clear hb3)))
  go_loopw [5] (fun v5 wr => ∃ (i : Nat) (q : Int), v5 = .int .i64 q ∧ Hid (q = i ∧ i ≤ b.length) ∧ Hid (wr.heap[w.heap.size]? = some (.cells #[.slice A l.length c, .slice B b.length d, .int .i64 at_, .bool dn] 57 (0, 0))) ∧ Hid (wr.heap[w.heap.size + 1]? = some (.cells #[.slice A2 l.length c2, .slice B2 b.length d2, .int .i64 at_, .bool dn] 57 (0, 0))) ∧ Hid (Below w.heap.size w wr)) (fun v5 _ => b.length - (intOf v5).toNat)
  case atStart => exact ⟨0, 0, rfl, Lib.hid ⟨rfl, Nat.zero_le _⟩, bP, bS, hB3⟩
  case round =>
    clear hB3 bP bS p3 q3
    obtain ⟨i, q, rfl, hq, bP, bS, hB⟩ := hrel
    have p4 := cells4 bP.out
    have q4 := cells4 bS.out
    by_cases hlt : i < b.length
    · have hq0 : 0 ≤ q := by have := hq.out; omega
      have hq1 : q < (b.length : Int) := by have := hq.out; omega
      have hq3 : q < 1048576 := by omega
      obtain ⟨ad, eA, z0⟩ := Kd.at_bool (h1.below hB.out).r8 q hq0 hq1
      obtain ⟨ad2, eA2, z1⟩ := Kd.at_bool (h2.below hB.out).r8 q hq0 hq1
      cases eA
      cases eA2
      obtain ⟨x, hx⟩ : ∃ x, rdOf false b q = x := ⟨_, rfl⟩
      rw [hx] at z0 z1
      have t4 : (x != x) = false := by simp
      replace hlt := Lib.hid hlt
      clear hx
      go_wp2
      go_quiet (fail)
      go_wp2
      refine ⟨⟨i + 1, q + 1, rfl, Lib.hid ⟨by have := hq.out; omega, hlt.out⟩, Lib.hid (blk_drewN bP.out _), Lib.hid (blk_drewN bS.out _), Lib.hid (pw_below_drewN hB.out _)⟩, ?_⟩
      simp only [intOf]; have := hq.out; have := hlt.out; omega
    · have hge : ¬ q < (b.length : Int) := by have := hq.out; omega
      go_wp2
      go_ret
      exact ⟨rfl, hB.out⟩
end Go.Proofs.YtjopbfidjapmbaaGreatDoor.Q
end
section
namespace Go.Proofs.YtjopbfidjapmbaaGreatDoor.Q
open Go.RowKit Go.Proofs.YtjopbfidjapmbaaGreatDoorW.PrintWords Go.Proofs.YtjopbfidjapmbaaGreatDoorW.PrintLast Go.Proofs.YtjopbfidjapmbaaGreatDoorW.PrintMore
set_option linter.unusedVariables false
set_option linter.unusedSimpArgs false
open Go.Proofs.YtjopbfidjapmbaaGreatDoorS
theorem shtR_of {w : World} {b1 b2 n m c7 c8 : Nat} {ok1 ok2 : Nat → Prop} {A7 A8 : Option Addr} {x : List ByteArray} {y : List Bool} (h0 : Kd.R Kd.string 9 w b1 ok1 (.slice A7 n c7) x) (h1 : Kd.R Kd.bool 4 w b2 ok2 (.slice A8 m c8) y) : ShtR A7 c7 x A8 c8 y w := by
  have r0 := Kd.R_reads' h0
  have r1 := Kd.R_reads' h1
  exact ⟨r0.2.2, by rw [← r0.1]; exact r0.2.1, r1.2.2, by rw [← r1.1]; exact r1.2.1⟩
theorem same24_loop (l : List Act3) (hl : l.length ≤ 1048576) : ∀ (d i : Nat), i + d = l.length → rebusref24_Same.l0 (d + 1) l l (i : Int) = some true
  | 0, i, h => by
    unfold rebusref24_Same.l0
    rw [if_neg (by omega)]
  | d + 1, i, h => by
    unfold rebusref24_Same.l0
    rw [if_pos (by omega), if_pos (by omega), if_pos (by omega), if_neg (by simp), w64 (by omega) (by omega)]
    exact same24_loop l hl d (i + 1) (by omega)
theorem same24_calls {A B : Option Addr} {c d : Nat} {l : List Act3} {w : World} (hl : l.length ≤ 1048576) (h1 : Kd.C kAct w A l.length l) (k1 : l.length ≤ c) (h2 : Kd.C kAct w B l.length l) (k2 : l.length ≤ d) :
    Calls Tryz.prog 8 #[.slice A l.length c, .slice B l.length d] w fun e w' => e = .returned (.bool true) ∧ Below w.heap.size w w' := by
  refine (rebusref24_Same.calls (l.length + 1) A c l B d l true w h1 k1 h2 k2 ?_).mono ?_
  · unfold rebusref24_Same.f
    rw [if_pos rfl]
    exact same24_loop l hl l.length 0 (by omega)
  · rintro e w' ⟨rfl, hd⟩
    exact ⟨rfl, hd.below⟩
structure SBox (own : Nat → Prop) (w : World) (base b : Nat) (x : Sht) (A7 : Option Addr) (c7 : Nat) (A8 : Option Addr) (c8 : Nat) : Prop where
  bx : w.heap[b]? = some (.cells #[.slice A7 x.1.length c7, .slice A8 x.2.1.length c8, .int .i64 x.2.2.1, .bool x.2.2.2] 57 (0, 0))
  n : ¬ own b
  r7 : Kd.R Kd.string 9 w base (fun k => ¬ own k) (.slice A7 x.1.length c7) x.1
  r8 : Kd.R Kd.bool 4 w base (fun k => ¬ own k) (.slice A8 x.2.1.length c8) x.2.1
theorem SBox.below {own : Nat → Prop} {w w' : World} {base b : Nat} {x : Sht} {A7 : Option Addr} {c7 : Nat} {A8 : Option Addr} {c8 : Nat} (h : SBox own w base b x A7 c7 A8 c8) (hb : Below w.heap.size w w') : SBox own w' base b x A7 c7 A8 c8 := ⟨blk_below h.bx hb, h.n, Kd.R_below h.r7 hb, Kd.R_below h.r8 hb⟩
structure SideW (own : Nat → Prop) (w : World) (base : Nat) (vL : Value) (L : List Sht) (vg : Value) (log : List Act3) (b11 b13 : Nat) (x y : Sht) (A1 : Option Addr) (c1 : Nat) (A2 : Option Addr) (c2 : Nat) (A3 : Option Addr) (c3 : Nat) (A4 : Option Addr) (c4 : Nat) : Prop where
  l : Kd.R kSht 57 w base (fun k => ¬ own k) vL L
  g : Kd.R kAct 35 w base (fun k => ¬ own k) vg log
  x : SBox own w base b11 x A1 c1 A2 c2
  y : SBox own w base b13 y A3 c3 A4 c4
section
variable {own : Nat → Prop} {w w' : World} {base : Nat} {vL : Value} {L : List Sht} {vg : Value} {log : List Act3} {b11 b13 : Nat} {x y : Sht} {A1 : Option Addr} {c1 : Nat} {A2 : Option Addr} {c2 : Nat} {A3 : Option Addr} {c3 : Nat} {A4 : Option Addr} {c4 : Nat}
theorem SideW.below (h : SideW own w base vL L vg log b11 b13 x y A1 c1 A2 c2 A3 c3 A4 c4) (hb : Below w.heap.size w w') : SideW own w' base vL L vg log b11 b13 x y A1 c1 A2 c2 A3 c3 A4 c4 := ⟨Kd.R_below h.l hb, Kd.R_below h.g hb, h.x.below hb, h.y.below hb⟩
end
end Go.Proofs.YtjopbfidjapmbaaGreatDoor.Q
end
section
namespace Go.Proofs.YtjopbfidjapmbaaGreatDoor.Q
open Go.RowKit Go.Proofs.YtjopbfidjapmbaaGreatDoorW.PrintWords Go.Proofs.YtjopbfidjapmbaaGreatDoorW.PrintLast Go.Proofs.YtjopbfidjapmbaaGreatDoorW.PrintMore
set_option linter.unusedVariables false
set_option linter.unusedSimpArgs false
open Go.Proofs.YtjopbfidjapmbaaGreatDoorS
abbrev Op4 := Int × Act3
def kOp : Kd Op4 := Kd.pair (Kd.int .i64) kAct
def rdOp (xs : List Op4) (i : Int) : Op4 := xs.getD i.toNat (0, z35)
theorem rdOp_mem {xs : List Op4} {i : Int} (h : i.toNat < xs.length) : rdOp xs i ∈ xs := by
  unfold rdOp
  rw [List.getD_eq_getElem?_getD, List.getElem?_eq_getElem h]
  exact List.getElem_mem h
theorem at_op {w : World} {A : Option Addr} {n : Nat} {xs : List Op4} (h : Kd.C kOp w A n xs) (i : Int) (h0 : 0 ≤ i) (h1 : i < n) :
    ∃ ad, A = some ad ∧ w.cell? (ad.add (i.toNat * 4)) = some (.int .i64 (rdOp xs i).1) ∧ w.cell? ⟨(ad.add (i.toNat * 4)).block, (ad.add (i.toNat * 4)).off + 1, none⟩ = some (.int .i64 (rdOp xs i).2.f0) ∧ w.cell? ⟨(ad.add (i.toNat * 4)).block, (ad.add (i.toNat * 4)).off + 2, none⟩ = some (.int .i64 (rdOp xs i).2.f1) ∧ w.cell? ⟨(ad.add (i.toNat * 4)).block, (ad.add (i.toNat * 4)).off + 3, none⟩ = some (.string (rdOp xs i).2.f2) := by
  obtain ⟨ad, c, e, _, hK, hc0⟩ := Kd.C_get h (0, z35) i h0 h1
  have hc : ∀ j u, c[j]? = some u → w.cell? (ad.add (i.toNat * 4 + j)) = some u := hc0
  obtain ⟨c0, c1, rfl, h2, h3⟩ := hK
  obtain rfl := h2
  obtain rfl := k35_open h3
  exact ⟨ad, e, hc 0 _ rfl, by rw [← add_field _ _ 1 (by omega)]; exact hc 1 _ rfl, by rw [← add_field _ _ 2 (by omega)]; exact hc 2 _ rfl, by rw [← add_field _ _ 3 (by omega)]; exact hc 3 _ rfl⟩
set_option maxHeartbeats 8000000 in
set_option maxRecDepth 1000000 in
theorem few_calls {A : Option Addr} {c l : Nat} {w : World} (hl : l ≤ 1048576) (hc : l ≤ c) :
    Calls Tryz.prog 12 #[.slice A l c] w fun e w' => e = .returned (.slice A (min l 60) c) ∧ Below w.heap.size w w' := by
  by_cases h : 60 < l
  · have k1 : decide ((l : Int) > 60) = true := decide_eq_true (by omega)
    have k2 : decide (60 < (l : Int)) = true := decide_eq_true (by omega)
    have k3 : (60 : Int) ≤ (c : Int) := by omega
    have e : min l 60 = 60 := by omega
    rw [e]
    go_enter Tryz.func12, Tryz.ntmps12
    go_wp2
    go_ret
    exact ⟨rfl, Below.refl _ _⟩
  · have k1 : decide ((l : Int) > 60) = false := decide_eq_false (by omega)
    have k2 : decide (60 < (l : Int)) = false := decide_eq_false (by omega)
    have e : min l 60 = l := by omega
    rw [e]
    go_enter Tryz.func12, Tryz.ntmps12
    go_wp2
    go_ret
    exact ⟨rfl, Below.refl _ _⟩
def passA (a : Act3) : Prop := (a.f0 = 1 → a.f2.toList.isEmpty = false ∧ a.f2.size ≤ 900) ∧ ∀ b ∈ a.f2.data.toList, b ≠ 10
theorem index_none : ∀ (l : List UInt8), (∀ b ∈ l, b ≠ 10) → Lib.index l [10] = -1
  | [], _ => rfl
  | b :: l, h => by
    have hb := h b List.mem_cons_self
    have ih := index_none l (fun c hc => h c (List.mem_cons_of_mem _ hc))
    unfold Lib.index
    rw [if_neg (by simp; exact fun e => hb e.symm), ih, if_pos (by rfl)]
theorem act_good {P : Puz} {s x : Sht} {a : Act3} (h : doP P s a = (x, 0)) (hp : passA a) (hl : P.bl.length ≤ 1048576) : goodA a = true ∧ (0 ≤ a.f1 ∧ a.f1 ≤ 1048576) ∧ (lineL a).length ≤ 905 := by
  obtain ⟨hk, ht, hc, ho⟩ := do_kind h
  by_cases h1 : a.f0 = 1
  · have hf := hc (by omega)
    have hq := hp.1 h1
    refine ⟨?_, by omega, ?_⟩
    · unfold goodA
      rw [if_pos h1, index_none _ hp.2, hf, hq.1]
      rfl
    · unfold lineL
      rw [if_pos h1, List.length_append, Array.length_toList]
      show 5 + a.f2.size ≤ 905
      omega
  · have he := ht h1
    by_cases h3 : a.f0 = 3
    · have hg := gopen_rd (ho h3)
      refine ⟨?_, by omega, ?_⟩
      · unfold goodA
        rw [if_neg h1, if_pos h3, he, decide_eq_true hg.1]
        rfl
      · unfold lineL
        rw [if_neg h1, if_pos h3, List.length_append, dec_itoa hg.1]
        have := dec_len 8 a.f1.toNat (by omega)
        show 5 + _ ≤ 905
        omega
    · have hf := hc h3
      have hn : nmL a.f0 ≠ [] := nm_ne.2 (by omega)
      refine ⟨?_, by omega, ?_⟩
      · unfold goodA
        rw [if_neg h1, if_neg h3, he, hf]
        cases hh : nmL a.f0 with
        | nil => exact absurd hh hn
        | cons b l => rfl
      · unfold lineL
        rw [if_neg h1, if_neg h3]
        have := nm_len a.f0
        omega
theorem join_short : ∀ (l : List Act3), (∀ a ∈ l, (lineL a).length ≤ 905) → (joinL l).length ≤ l.length * 906
  | [], _ => Nat.zero_le _
  | a :: l, h => by
    have h1 := h a List.mem_cons_self
    have h2 := join_short l (fun b hb => h b (List.mem_cons_of_mem _ hb))
    rw [joinL_cons, List.length_append, List.length_cons, List.length_cons]
    omega
theorem write2_calls {A : Option Addr} {c : Nat} {log : List Act3} {w : World} (hT : Tabs w) (hr : Kd.C kAct w A log.length log) (hn : log.length ≤ 1000) (hz : ∀ a ∈ log, (-9223372036854775808 ≤ a.f1 ∧ a.f1 ≤ 9223372036854775807) ∧ a.f2.size ≤ 1048576) :
    Calls Tryz.prog 6 #[.slice A log.length c] w fun e w' => ∃ (t : ByteArray) (i er : Int), e = .returned (.tuple #[.string t, .int .i64 i, .int .i64 er]) ∧ ((∀ a ∈ log, goodA a = true) → t.data.toList = joinL log ∧ er = 0) ∧ Below w.heap.size w w' := by
  refine (write_calls hT hr hn hz).mono ?_
  rintro e w' ⟨⟨hg, rfl⟩ | ⟨⟨a, ha, hb⟩, i, rfl⟩, hB⟩
  · exact ⟨_, _, _, rfl, fun _ => ⟨rfl, rfl⟩, hB⟩
  · exact ⟨_, _, _, rfl, (fun hg => by rw [hg a ha] at hb; cases hb), hB⟩
end Go.Proofs.YtjopbfidjapmbaaGreatDoor.Q
end
section
namespace Go.Proofs.YtjopbfidjapmbaaGreatDoor.Q
open Go.RowKit Go.Proofs.YtjopbfidjapmbaaGreatDoorW.PrintWords Go.Proofs.YtjopbfidjapmbaaGreatDoorW.PrintLast Go.Proofs.YtjopbfidjapmbaaGreatDoorW.PrintMore
open Go.ChangeShapes Go.WideShapes Go.ChangeAt Go.Joins
set_option linter.unusedVariables false
instance : Inhabited Op4 := ⟨(0, z35)⟩
theorem cells4_list {cs : List Value} (h : cs.length = 4) : ∃ a b c d, cs = [a, b, c, d] := by
  match cs, h with
  | [a, b, c, d], _ => exact ⟨a, b, c, d, rfl⟩
set_option maxRecDepth 100000 in
theorem open_ops {H : Type} {enc : TypeId × Value → H} {w : World} {b : Nat} {v : Value} {d : DataW H} {p : List MemPlace} (hv : Value.okWide Tryz.prog w .any b 43 v) (h : DataW.Trod enc Tryz.prog w 0 (fun _ => true) true 43 v d p) :
    ∃ (A9 : Option Addr) (c9 : Nat) (ops : List Op4), v = .slice A9 ops.length c9 ∧ Kd.C kOp w A9 ops.length ops ∧ ops.length ≤ c9 ∧ (Rows.uptoBulk d ≤ 1048576 → ops.length ≤ 1048576 ∧ ∀ x ∈ ops, x.2.f2.size ≤ 1048576) := by
  obtain ⟨a0, len0, cap0, rfl⟩ := okWide_slice Tryz.underlying43 hv
  obtain ⟨fuel, hf⟩ := h
  have c49 : Tryz.prog.cellsOf 49 = 4 := by kernel_rfl
  have c36 : Tryz.prog.cellsOf 35 = 3 := by kernel_rfl
  have c9' : Tryz.prog.cellsOf 9 = 1 := by kernel_rfl
  have c3' : Tryz.prog.cellsOf 3 = 1 := by kernel_rfl
  rcases DataW.trod_slice Tryz.underlying43 hf with ⟨hcs, hx⟩ | ⟨a, len, cap, elems, rest, n, _, hcs, hx, hb, hl, hm, hlen, hel, hsp, hns⟩
  · simp only [Value.cells, List.cons.injEq, and_true, Value.slice.injEq] at hcs
    obtain ⟨rfl, rfl, rfl⟩ := hcs
    exact ⟨none, 0, [], rfl, Kd.C_nil _ _, Nat.le_refl _, fun _ => ⟨by simp, fun x hx => by simp at hx⟩⟩
  · simp only [Value.cells, List.cons.injEq, and_true, Value.slice.injEq] at hcs
    obtain ⟨rfl, rfl, rfl⟩ := hcs
    have each : ∀ i, i < len0 → ∃ x : Op4, (w.cell? (a.add (i * 4 + 0)) = some (.int .i64 x.1) ∧ w.cell? (a.add (i * 4 + 1)) = some (.int .i64 x.2.f0) ∧ w.cell? (a.add (i * 4 + 2)) = some (.int .i64 x.2.f1) ∧ w.cell? (a.add (i * 4 + 3)) = some (.string x.2.f2)) ∧ ∃ y ∈ elems, x.2.f2.size + 1 ≤ Rows.uptoBulk y.1 := by
      intro i hi
      have hy := hel i hi
      obtain ⟨y, hye⟩ : ∃ y, elems[i]? = some y := ⟨elems[i]'(by omega), List.getElem?_eq_getElem (by omega)⟩
      rw [hye, c49, Option.bind_eq_some_iff] at hy
      obtain ⟨cs, hc, hd⟩ := hy
      obtain ⟨_, hcl, hcc⟩ := World.cells?_some hc
      obtain ⟨yw, ya, m, hx2, _, gw, ga⟩ := trod_struct2 Tryz.underlying49 hd
      obtain ⟨e0, e1, e2, e3, rfl⟩ := cells4_list hcl
      simp only [c36, c3', List.drop_succ_cons, List.drop_zero, List.take_succ_cons, List.take_zero] at gw ga
      obtain ⟨y0, y1, y2, m2, hx3, _, g0, g1, g2⟩ := Go.Deep.trod_struct3 Tryz.underlying35 ga
      simp only [c9', c3', List.drop_succ_cons, List.drop_zero, List.take_succ_cons, List.take_zero] at g0 g1 g2
      obtain ⟨what, q6, q7, _⟩ := DataW.trod_int Tryz.underlying3 gw
      obtain ⟨kind, q0, q1, _⟩ := DataW.trod_int Tryz.underlying3 g0
      obtain ⟨cell, q2, q3, _⟩ := DataW.trod_int Tryz.underlying3 g1
      obtain ⟨text, q4, q5, _⟩ := DataW.trod_string Tryz.underlying9 g2
      simp only [List.cons.injEq, and_true] at q0 q2 q4 q6
      subst q0 q2 q4 q6
      have add2 : ∀ j, (a.add (i * 4)).add j = a.add (i * 4 + j) := fun j => by
        unfold Addr.add
        split <;> split <;> split <;> simp_all <;> omega
      have h0 : w.cell? ((a.add (i * 4)).add 0) = some (.int .i64 what) := hcc 0 (by omega)
      have h1 : w.cell? ((a.add (i * 4)).add 1) = some (.int .i64 kind) := hcc 1 (by omega)
      have h2 : w.cell? ((a.add (i * 4)).add 2) = some (.int .i64 cell) := hcc 2 (by omega)
      have h3 : w.cell? ((a.add (i * 4)).add 3) = some (.string text) := hcc 3 (by omega)
      rw [add2] at h0 h1 h2 h3
      refine ⟨(what, ⟨kind, cell, text⟩), ⟨h0, h1, h2, h3⟩, y, List.mem_of_getElem? hye, ?_⟩
      rw [hx2]
      show text.size + 1 ≤ Rows.uptoBulk (DataW.agg [yw.1, ya.1])
      have hq := bulk_agg (H := H) (d := ya.1) (l := [yw.1, ya.1]) (by simp)
      have hr := bulk_agg (H := H) (d := y2.1) (l := [y0.1, y1.1, y2.1]) (by simp)
      have e3 : ya.1 = DataW.agg [y0.1, y1.1, y2.1] := by rw [hx3]
      have e2 : Rows.uptoBulk y2.1 = text.size + 1 := by rw [q5]; simp [Rows.uptoBulk]
      rw [e3] at hq
      rw [e3]
      omega
    obtain ⟨f, hf2⟩ := Go.Deep.choose_lt (α := Op4) each
    have hlen2 : ((List.range len0).map f).length = len0 := by simp
    have hget : ∀ (j : Nat) (x : Op4), ((List.range len0).map f)[j]? = some x → j < len0 ∧ x = f j := by
      intro j x hx
      simp only [List.getElem?_map, Option.map_eq_some_iff] at hx
      obtain ⟨k, hk, rfl⟩ := hx
      obtain ⟨h1, h2⟩ := List.getElem?_eq_some_iff.1 hk
      simp only [List.length_range, List.getElem_range] at h1 h2
      exact ⟨h1, by rw [h2]⟩
    refine ⟨some a, cap0, (List.range len0).map f, by rw [hlen2], ⟨rfl, by unfold maxLen at hm; omega, fun _ => ⟨a, rfl, fun j x hx => ?_⟩⟩, by omega, fun hd => ⟨?_, fun x hx => ?_⟩⟩
    · obtain ⟨h1, rfl⟩ := hget j x hx
      obtain ⟨h2, h3, h4, h5⟩ := (hf2 j h1).1
      refine ⟨[.int .i64 (f j).1, .int .i64 (f j).2.f0, .int .i64 (f j).2.f1, .string (f j).2.f2], rfl, ⟨[_], _, rfl, rfl, k35_mk w (f j).2⟩, fun i u hu => ?_⟩
      match i, hu with
      | 0, hu => injection hu with hu; rw [← hu]; exact h2
      | 1, hu => injection hu with hu; rw [← hu]; exact h3
      | 2, hu => injection hu with hu; rw [← hu]; exact h4
      | 3, hu => injection hu with hu; rw [← hu]; exact h5
    · rw [hlen2]
      have h1 := bulk_length (elems.map (·.1))
      rw [List.length_map] at h1
      have h2 : Rows.uptoBulkAll (elems.map (·.1)) + 1 ≤ Rows.uptoBulk d := by
        have e : d = .slice (elems.map (·.1)) (rest.map (·.1)) := congrArg Prod.fst hx
        rw [e]
        simp only [Rows.uptoBulk]
        omega
      omega
    · obtain ⟨j, hj⟩ := List.getElem?_of_mem hx
      obtain ⟨h1, rfl⟩ := hget j x hj
      obtain ⟨y, hy, hs⟩ := (hf2 j h1).2
      have h3 := bulk_part (H := H) (d := y.1) (l := elems.map (·.1)) (List.mem_map.2 ⟨y, hy, rfl⟩)
      have h2 : Rows.uptoBulkAll (elems.map (·.1)) + 1 ≤ Rows.uptoBulk d := by
        have e : d = .slice (elems.map (·.1)) (rest.map (·.1)) := congrArg Prod.fst ‹(d, p) = _›
        rw [e]
        simp only [Rows.uptoBulk]
        omega
      omega
end Go.Proofs.YtjopbfidjapmbaaGreatDoor.Q
end
section
namespace Go.Proofs.YtjopbfidjapmbaaGreatDoor.Q
open Go.RowKit Go.Proofs.YtjopbfidjapmbaaGreatDoorW.PrintWords Go.Proofs.YtjopbfidjapmbaaGreatDoorW.PrintLast Go.Proofs.YtjopbfidjapmbaaGreatDoorW.PrintMore
set_option linter.unusedVariables false
set_option linter.unusedSimpArgs false
open Go.Proofs.YtjopbfidjapmbaaGreatDoorS
theorem run_do {P : Puz} {sh : List Sht} {log : List Act3} (h : Run P sh log) {a : Act3} (ha : a ∈ log) : ∃ s x, doP P s a = (x, 0) := by
  obtain ⟨i, hi, rfl⟩ := List.getElem_of_mem ha
  have e : acN log i = log[i] := by unfold acN; rw [List.getD_eq_getElem?_getD, List.getElem?_eq_getElem hi]; rfl
  exact ⟨_, _, by rw [← e]; exact h.d i hi⟩
theorem run_range {P : Puz} {sh : List Sht} {log : List Act3} (h : Run P sh log) (hl : P.bl.length ≤ 1048576) {a : Act3} (ha : a ∈ log) : 0 ≤ a.f1 ∧ a.f1 ≤ 1048576 := by
  obtain ⟨s, x, hd⟩ := run_do h ha
  obtain ⟨hk, ht, hc, ho⟩ := do_kind hd
  by_cases h3 : a.f0 = 3
  · have := gopen_rd (ho h3)
    omega
  · have := hc h3
    omega
theorem take_ten {x : ByteArray} {m : Nat} (hm : m < x.size) (h : ((x[m].toNat : Int) == 10) = false) (hno : ∀ b ∈ x.data.toList.take m, b ≠ 10) : ∀ b ∈ x.data.toList.take (m + 1), b ≠ 10 := by
  have hm2 : m < x.data.toList.length := by rw [Array.length_toList]; exact hm
  rw [← List.take_append_getElem hm2]
  intro b hb
  rcases List.mem_append.1 hb with hb | hb
  · exact hno b hb
  · rw [List.mem_singleton.1 hb]
    intro e
    have e2 : x[m] = x.data.toList[m] := by rw [Array.getElem_toList]; rfl
    rw [e2, e] at h
    revert h
    decide
set_option maxHeartbeats 16000000 in
set_option maxRecDepth 1000000 in
theorem SessionReplays.calls {title : ByteArray} {H W : Int} {A2 : Option Addr} {c2 : Nat} {bl : List Bool} {A3 : Option Addr} {c3 : Nat} {ri : List Bool} {A4 : Option Addr} {c4 : Nat} {be : List Bool} {A5 : Option Addr} {c5 : Nat} {cells : List ByteArray} {A6 : Option Addr} {c6 : Nat} {clues : List ByteArray} {Ao : Option Addr} {co : Nat} {ops : List Op4} {w : World} (hT : Tabs w) (hP : PuzR A2 c2 bl A3 c3 ri A4 c4 be A5 c5 cells A6 c6 clues w) (hO : Kd.C kOp w Ao ops.length ops) (hco : ops.length ≤ co) (hz : PuzS title cells clues) (h2 : bl.length ≤ 1048576) (h3 : ri.length ≤ 1048576) (h4 : be.length ≤ 1048576) (hol : ops.length ≤ 1048576) (hos : ∀ o ∈ ops, o.2.f2.size ≤ 1048576) :
    Calls Tryz.prog 4 #[.agg #[.string title, .int .i64 H, .int .i64 W, .slice A2 bl.length c2, .slice A3 ri.length c3, .slice A4 be.length c4, .slice A5 cells.length c5, .slice A6 clues.length c6], .slice Ao ops.length co] w fun e w' => e = .returned (.bool true) ∧ Below w.heap.size w w' := by
  have hx := box1 w (.cells #[.string title, .int .i64 H, .int .i64 W, .slice A2 bl.length c2, .slice A3 ri.length c3, .slice A4 be.length c4, .slice A5 cells.length c5, .slice A6 clues.length c6] 42)
  replace hx := Lib.hid hx
  have hu27 := Tryz.underlying42
  have hu24 := Tryz.underlying39
  have hu36 := Tryz.underlying35
  have hu38 := Tryz.underlying57
  have hu49 := Tryz.underlying49
  obtain ⟨r, hr⟩ : ∃ r, sstart title H W bl ri be cells clues = r := ⟨_, rfl⟩
  by_cases he : r.2.2.2.2 = 0
  rotate_left
  · have te : (r.2.2.2.2 != 0) = true := by simpa using he
    go_enter Tryz.func4, Tryz.ntmps4
    go_wp2_with (first
      | (go_at_call 5; go_must (refine (rebuslaw24_awake.calls (tabs_below hT hx.out.2)).mono ?_; rintro e w1 ⟨rfl, hb1⟩; have hB1 := Lib.hid (below_step hx.out.2 hb1); have bP := Lib.hid (blk_below hx.out.1 hb1); have p1 := cells8 bP.out; clear hb1))
      | (go_at_call 11; go_must (refine (new_calls (tabs_below hT hB1.out) (hP.below hB1.out) hz h2 h3 h4).mono ?_; rw [hr]; rintro e w2 hN; rcases hN with ⟨_, rfl, hb⟩ | ⟨h, _⟩; rotate_left; exact absurd h he; have hB2 := Lib.hid (below_step hB1.out hb); clear hb)))
    go_ret
    exact ⟨rfl, hB2.out⟩
  obtain ⟨P, hPz⟩ : ∃ P, (⟨title, H, W, bl, ri, be, cells, clues⟩ : Puz) = P := ⟨_, rfl⟩
  obtain ⟨s0, hs0⟩ : ∃ s : Sht, (r.1, r.2.1, r.2.2.1, r.2.2.2.1) = s := ⟨_, rfl⟩
  have hrr : r = (s0.1, s0.2.1, s0.2.2.1, s0.2.2.2, 0) := by rw [← hs0, ← he]
  have hzP : PuzS P.t P.cells P.clues := by rw [← hPz]; exact hz
  have hrs : RSht P s0 := by rw [← hPz]; exact (start_right (hr.trans hrr)).2
  have hPl : P.bl.length ≤ 1048576 := by rw [← hPz]; exact h2
  obtain ⟨n, hn⟩ : ∃ n, min ops.length 60 = n := ⟨_, rfl⟩
  have hn1 : n ≤ ops.length ∧ n ≤ 60 := by omega
  have te : (r.2.2.2.2 != 0) = false := by simpa using he
  replace hn1 := Lib.hid hn1
  replace hzP := Lib.hid hzP
  replace hrs := Lib.hid hrs
  replace hPz := Lib.hid hPz
  replace hs0 := Lib.hid hs0
  replace hrr := Lib.hid hrr
  replace hPl := Lib.hid hPl
  go_enter Tryz.func4, Tryz.ntmps4
  go_wp2_with (first
    | (go_at_call 5; go_must (refine (rebuslaw24_awake.calls (tabs_below hT hx.out.2)).mono ?_; rintro e w1 ⟨rfl, hb1⟩; have hB1 := Lib.hid (below_step hx.out.2 hb1); have bP := Lib.hid (blk_below hx.out.1 hb1); have p1 := cells8 bP.out; clear hb1))
    | (go_at_call 11; go_must (refine (new_calls (tabs_below hT hB1.out) (hP.below hB1.out) hz h2 h3 h4).mono ?_; rw [hr]; rintro e w2 hN; rcases hN with ⟨h, _⟩ | ⟨_, g, rfl, hS, hb⟩; exact absurd he h; rw [hPz.out, hs0.out] at hS; have hS2 := Lib.hid (SesT.of hS); have hBB := Lib.hid hb; clear hb hS))
    | (go_at_call 12; go_must (refine (few_calls hol hco).mono ?_; rw [hn]; rintro e w3 ⟨rfl, hb⟩; have hS3 := Lib.hid (hS2.out.below hb); have hB3 := Lib.hid (below_step hBB.out hb); clear hb)))
  obtain ⟨own2, hown2⟩ : ∃ o : Nat → Prop, (fun k => w1.heap.size ≤ k ∧ k < w2.heap.size) = o := ⟨_, rfl⟩
  rw [hown2] at hS3
  clear hown2 hS2 hBB p1 te hn
  have hm1 := Lib.hid hB1.out.size
  go_loopw [39] (fun v39 wr => ∃ (i : Nat) (q : Int) (own : Nat → Prop) (S : SS), v39 = .int .i64 q ∧ Hid (q = i ∧ i ≤ n) ∧ Hid (SesT own wr w1.heap.size g P S) ∧ Hid (Inv P s0 i S) ∧ Hid (Below w1.heap.size w1 wr)) (fun v39 _ => n - (intOf v39).toNat)
  case atStart => exact ⟨0, 0, own2, _, rfl, Lib.hid ⟨rfl, Nat.zero_le _⟩, hS3, Lib.hid (inv_new hrs.out), hB3⟩
  case round =>
    clear hS3 hB3
    obtain ⟨i, q, own, S, rfl, hq, hS, hI, hB⟩ := hrel
    have hq0 : 0 ≤ q := by have := hq.out; omega
    have hok := Lib.hid (inv_ok hzP.out hI.out (by have := hq.out; have := hn1.out; omega))
    by_cases hlt : i < n
    · have hq1 : q < (n : Int) := by have := hq.out; omega
      have hq2 : q < (ops.length : Int) := by have := hq.out; have := hn1.out; omega
      have hq3 : q < 1048576 := by omega
      obtain ⟨ad, eA, z0, z1, z2, z3⟩ := at_op (Kd.C_below hO (below_then hB1.out hm1.out hB.out)) q hq0 hq2
      cases eA
      obtain ⟨what, hwh⟩ : ∃ x, (rdOp ops q).1 = x := ⟨_, rfl⟩
      obtain ⟨a, ha⟩ : ∃ x, (rdOp ops q).2 = x := ⟨_, rfl⟩
      have haz := Lib.hid (show a.f2.size ≤ 1048576 by rw [← ha]; exact hos _ (rdOp_mem (by omega)))
      rw [hwh] at z0
      rw [ha] at z1 z2 z3
      clear hwh ha
      have hY := Lib.hid (box1 wr (.cells #[.int .i64 what, .int .i64 a.f0, .int .i64 a.f1, .string a.f2] 49))
      have hS4 := Lib.hid (hS.out.below hY.out.2)
      have hB4 := Lib.hid (hB.out.trans (hY.out.2.mono hB.out.size))
      have y3 := cells4 hY.out.1
      have hT4 := Lib.hid (tabs_below hT (below_then hB1.out hm1.out hB4.out))
      have hTB := Lib.hid (fun w' (h : Below w1.heap.size (wr.alloc (.cells #[.int .i64 what, .int .i64 a.f0, .int .i64 a.f1, .string a.f2] 49)) w') => tabs_below hT (below_then hB1.out hm1.out (hB4.out.trans h)))
      replace hlt := Lib.hid hlt
      clear hq2
      by_cases h0 : what = 0
      · have k0 : (what == 0) = true := by rw [h0]; rfl
        clear h0
        go_wp2_with (first
          | (go_at_call 13; go_must (refine (wdo hT4.out hS4.out hok.out haz.out).mono ?_; rintro e w6 ⟨rfl, hS6, hk, hb⟩; replace hS6 := Lib.hid hS6; have hB6 := Lib.hid (hB4.out.trans hb); clear hk hb)))
        refine ⟨⟨i + 1, q + 1, _, _, rfl, Lib.hid ⟨by have := hq.out; omega, hlt.out⟩, hS6, Lib.hid (inv_do hI.out haz.out), hB6⟩, ?_⟩
        simp only [intOf]; have := hq.out; have := hlt.out; omega
      · have k0 : (what == 0) = false := by simpa using h0
        clear h0
        by_cases h1 : what = 1
        · have k1 : (what == 1) = true := by rw [h1]; rfl
          clear h1
          go_wp2_with (first
            | (go_at_call 14; go_must (refine (wundo hS4.out hok.out).mono ?_; rintro e w6 ⟨rfl, hS6, hk, hb⟩; replace hS6 := Lib.hid hS6; have hB6 := Lib.hid (hB4.out.trans hb); clear hk hb)))
          refine ⟨⟨i + 1, q + 1, _, _, rfl, Lib.hid ⟨by have := hq.out; omega, hlt.out⟩, hS6, Lib.hid (inv_more (inv_undo hI.out) (Nat.le_succ _)), hB6⟩, ?_⟩
          simp only [intOf]; have := hq.out; have := hlt.out; omega
        · have k1 : (what == 1) = false := by simpa using h1
          clear h1
          by_cases h2 : what = 2
          · have k2 : (what == 2) = true := by rw [h2]; rfl
            clear h2
            go_wp2_with (first
              | (go_at_call 15; go_must (refine (wredo hTB.out hS4.out hok.out).mono ?_; rintro e w6 ⟨rfl, hS6, hk, hb⟩; replace hS6 := Lib.hid hS6; have hB6 := Lib.hid (hB4.out.trans hb); clear hk hb)))
            refine ⟨⟨i + 1, q + 1, _, _, rfl, Lib.hid ⟨by have := hq.out; omega, hlt.out⟩, hS6, Lib.hid (inv_more (inv_redo hI.out) (Nat.le_succ _)), hB6⟩, ?_⟩
            simp only [intOf]; have := hq.out; have := hlt.out; omega
          · have k2 : (what == 2) = false := by simpa using h2
            clear h2
            go_wp2
            refine ⟨⟨i + 1, q + 1, _, _, rfl, Lib.hid ⟨by have := hq.out; omega, hlt.out⟩, hS4, Lib.hid (inv_more hI.out (Nat.le_succ _)), hB4⟩, ?_⟩
            simp only [intOf]; have := hq.out; have := hlt.out; omega
    · have hge : ¬ q < (n : Int) := by have := hq.out; omega
      obtain ⟨sh, log, on⟩ := S
      have hnl := Lib.hid (show log.length ≤ 60 by have e1 : log.length + on.length ≤ i := hI.out.n; have e2 := hq.out; have e3 := hn1.out; omega)
      have hrun := Lib.hid (show Run P sh log from hI.out.r)
      have hzz := Lib.hid (show ∀ a ∈ log, (-9223372036854775808 ≤ a.f1 ∧ a.f1 ≤ 9223372036854775807) ∧ a.f2.size ≤ 1048576 from fun a ha => ⟨by have := run_range hrun.out hPl.out ha; omega, hI.out.al a ha⟩)
      have tok1 : True := trivial
      go_wp2_with (first
        | (go_at_call 16; have tq := tok1; go_must (clear tq tok1; refine (wlog hS.out hok.out).mono ?_; rw [show (SS.log ⟨sh, log, on⟩) = log from rfl]; rintro e w4 ⟨u, rfl, hl, hb, hS4⟩; obtain ⟨D1, k1, rfl⟩ := Kd.R_slice hl; have hC4 := Lib.hid (Kd.R_reads' hl).2.2; replace hS4 := Lib.hid hS4; have hB4 := Lib.hid (hB.out.trans (hb.mono hB.out.size)); clear hl hb))
        | (go_at_call 6; go_must (refine (write2_calls (tabs_below hT (below_then hB1.out hm1.out hB4.out)) hC4.out (by have := hnl.out; omega) hzz.out).mono ?_; rintro e w5 ⟨txt, wi, er, rfl, htx, hb⟩; have hS5 := Lib.hid (hS4.out.below hb); have hB5 := Lib.hid (hB4.out.trans (hb.mono hB4.out.size)); replace htx := Lib.hid htx; clear hb))
        | (go_at_call 16; go_must (refine (wlog hS5.out hok.out).mono ?_; rw [show (SS.log ⟨sh, log, on⟩) = log from rfl]; rintro e w6 ⟨u, rfl, hl, hb, hS6⟩; obtain ⟨D2, k2, rfl⟩ := Kd.R_slice hl; have hC6 := Lib.hid (Kd.R_reads' hl).2.2; replace hS6 := Lib.hid hS6; have hB6 := Lib.hid (hB5.out.trans (hb.mono hB5.out.size)); clear hl hb)))
      clear hS hB hS4 hC4 hB4 hS5 hB5 hge
      go_loopw [70] (fun v70 wr => ∃ (i : Nat) (q : Int), v70 = .int .i64 q ∧ Hid (q = i ∧ i ≤ log.length) ∧ Hid (∀ a ∈ log.take i, passA a) ∧ Hid (Below w6.heap.size w6 wr)) (fun v70 _ => log.length - (intOf v70).toNat)
      case atStart => exact ⟨0, 0, rfl, Lib.hid ⟨rfl, Nat.zero_le _⟩, Lib.hid (fun a h => by cases h), Lib.hid (Below.refl _ _)⟩
      case round =>
        obtain ⟨j, p, rfl, hp, hps, hW⟩ := hrel
        have hp0 : 0 ≤ p := by have := hp.out; omega
        by_cases hlt : j < log.length
        · have hp1 : p < (log.length : Int) := by have := hp.out; omega
          have hp3 : p < 100 := by have := hnl.out; omega
          obtain ⟨ad, eA, z0, z1, z2⟩ := at_T35 (Kd.C_below hC6.out hW.out) p hp0 hp1
          cases eA
          obtain ⟨a, ha⟩ : ∃ a, rd_T35 log p = a := ⟨_, rfl⟩
          have hai : acN log j = a := by rw [← ha]; unfold acN rd_T35; rw [hp.out.1, Int.toNat_natCast]
          have htk := Lib.hid (show log.take (j + 1) = log.take j ++ [a] by rw [← hai]; exact (take_snoc _ hlt).symm)
          have haz := hzz.out a (by rw [← hai]; exact acN_mem hlt)
          rw [ha] at z0 z1 z2
          clear ha hai
          have hY := Lib.hid (box1 wr (.cells #[.int .i64 a.f0, .int .i64 a.f1, .string a.f2] 35))
          have y3 := cells3 hY.out.1
          have hW4 := Lib.hid (below_step hW.out hY.out.2)
          replace hlt := Lib.hid hlt
          have hfin := Lib.hid (below_then hB1.out hm1.out (hB6.out.trans (hW4.out.mono hB6.out.size)))
          by_cases h1 : a.f0 = 1
          · have k1 : (a.f0 == 1) = true := by rw [h1]; rfl
            replace h1 := Lib.hid h1
            cases hem : a.f2.toList.isEmpty with
            | true =>
              go_wp2
              go_ret
              exact ⟨rfl, hfin.out⟩
            | false =>
              by_cases hbig : 900 < a.f2.size
              · have kb : decide ((a.f2.size : Int) > 900) = true := decide_eq_true (by omega)
                have kb2 : decide (900 < (a.f2.size : Int)) = true := decide_eq_true (by omega)
                go_wp2
                go_ret
                exact ⟨rfl, hfin.out⟩
              · have kb : decide ((a.f2.size : Int) > 900) = false := decide_eq_false (by omega)
                have kb2 : decide (900 < (a.f2.size : Int)) = false := decide_eq_false (by omega)
                have hp1s := Lib.hid (show a.f0 = 1 → a.f2.toList.isEmpty = false ∧ a.f2.size ≤ 900 from fun _ => ⟨hem, by omega⟩)
                clear hbig h1
                go_wp2
                go_hide hQ
                go_loopw [13] (fun v13 wq => ∃ (m : Nat) (r : Int), v13 = .int .i64 r ∧ wq = wr.alloc (.cells #[.int .i64 a.f0, .int .i64 a.f1, .string a.f2] 35) ∧ Hid (r = m ∧ m ≤ a.f2.size) ∧ Hid (∀ b ∈ a.f2.data.toList.take m, b ≠ 10)) (fun v13 _ => a.f2.size - (intOf v13).toNat)
                case atStart => exact ⟨0, 0, rfl, rfl, Lib.hid ⟨rfl, Nat.zero_le _⟩, Lib.hid (fun b h => by cases h)⟩
                case round =>
                  obtain ⟨m, r, rfl, rfl, hr, hno⟩ := hrel
                  have hr0 : 0 ≤ r := by have := hr.out; omega
                  by_cases hml : m < a.f2.size
                  · have hr1 : r < (a.f2.size : Int) := by have := hr.out; omega
                    have hr3 : r < 1048576 := by have := haz.2; omega
                    have hmt : r.toNat = m := by have := hr.out; omega
                    have hml2 : m < a.f2.data.toList.length := by rw [Array.length_toList]; exact hml
                    cases hten : ((a.f2[m].toNat : Int) == 10) with
                    | true =>
                      go_wp2
                      subst hQ
                      go_wp2
                      go_ret
                      exact ⟨rfl, hfin.out⟩
                    | false =>
                      have hno2 := Lib.hid (take_ten hml hten hno.out)
                      go_wp2
                      refine ⟨⟨m + 1, r + 1, rfl, trivial, Lib.hid ⟨by have := hr.out; omega, by omega⟩, hno2⟩, ?_⟩
                      simp only [intOf]; have := hr.out; omega
                  · have hr1 : ¬ r < (a.f2.size : Int) := by have := hr.out; omega
                    go_wp2
                    subst hQ
                    go_wp2
                    refine ⟨⟨j + 1, p + 1, rfl, Lib.hid ⟨by have := hp.out; omega, hlt.out⟩, Lib.hid (fun b hb => ?_), hW4⟩, ?_⟩
                    · rw [htk.out] at hb
                      rcases List.mem_append.1 hb with hb | hb
                      · exact hps.out b hb
                      · rw [List.mem_singleton.1 hb]
                        refine ⟨hp1s.out, fun c hc => hno.out c ?_⟩
                        rw [List.take_of_length_le (by rw [Array.length_toList]; show a.f2.size ≤ m; omega)]
                        exact hc
                    · simp only [intOf]; have := hp.out; have := hlt.out; omega
          · have k1 : (a.f0 == 1) = false := by simpa using h1
            have hp1s := Lib.hid (show a.f0 = 1 → a.f2.toList.isEmpty = false ∧ a.f2.size ≤ 900 from fun e => absurd e h1)
            clear h1
            go_wp2
            go_hide hQ
            go_loopw [13] (fun v13 wq => ∃ (m : Nat) (r : Int), v13 = .int .i64 r ∧ wq = wr.alloc (.cells #[.int .i64 a.f0, .int .i64 a.f1, .string a.f2] 35) ∧ Hid (r = m ∧ m ≤ a.f2.size) ∧ Hid (∀ b ∈ a.f2.data.toList.take m, b ≠ 10)) (fun v13 _ => a.f2.size - (intOf v13).toNat)
            case atStart => exact ⟨0, 0, rfl, rfl, Lib.hid ⟨rfl, Nat.zero_le _⟩, Lib.hid (fun b h => by cases h)⟩
            case round =>
              obtain ⟨m, r, rfl, rfl, hr, hno⟩ := hrel
              have hr0 : 0 ≤ r := by have := hr.out; omega
              by_cases hml : m < a.f2.size
              · have hr1 : r < (a.f2.size : Int) := by have := hr.out; omega
                have hr3 : r < 1048576 := by have := haz.2; omega
                have hmt : r.toNat = m := by have := hr.out; omega
                have hml2 : m < a.f2.data.toList.length := by rw [Array.length_toList]; exact hml
                cases hten : ((a.f2[m].toNat : Int) == 10) with
                | true =>
                  go_wp2
                  subst hQ
                  go_wp2
                  go_ret
                  exact ⟨rfl, hfin.out⟩
                | false =>
                  have hno2 := Lib.hid (take_ten hml hten hno.out)
                  go_wp2
                  refine ⟨⟨m + 1, r + 1, rfl, trivial, Lib.hid ⟨by have := hr.out; omega, by omega⟩, hno2⟩, ?_⟩
                  simp only [intOf]; have := hr.out; omega
              · have hr1 : ¬ r < (a.f2.size : Int) := by have := hr.out; omega
                go_wp2
                subst hQ
                go_wp2
                refine ⟨⟨j + 1, p + 1, rfl, Lib.hid ⟨by have := hp.out; omega, hlt.out⟩, Lib.hid (fun b hb => ?_), hW4⟩, ?_⟩
                · rw [htk.out] at hb
                  rcases List.mem_append.1 hb with hb | hb
                  · exact hps.out b hb
                  · rw [List.mem_singleton.1 hb]
                    refine ⟨hp1s.out, fun c hc => hno.out c ?_⟩
                    rw [List.take_of_length_le (by rw [Array.length_toList]; show a.f2.size ≤ m; omega)]
                    exact hc
                · simp only [intOf]; have := hp.out; have := hlt.out; omega
        · have hge : ¬ p < (log.length : Int) := by have := hp.out; omega
          have hall : ∀ a ∈ log, passA a := by
            have h := hps.out
            rw [List.take_of_length_le (by have := hp.out; omega)] at h
            exact h
          have hga : ∀ a ∈ log, goodA a = true ∧ (0 ≤ a.f1 ∧ a.f1 ≤ 1048576) ∧ (lineL a).length ≤ 905 := fun a ha => by
            obtain ⟨s, x, hd⟩ := run_do hrun.out ha
            exact act_good hd (hall a ha) hPl.out
          obtain ⟨ht1, ht2⟩ := htx.out (fun a ha => (hga a ha).1)
          subst ht2
          have hts := Lib.hid (show txt.size ≤ 65536 by rw [ba_len ht1]; have e1 := join_short log (fun a ha => (hga a ha).2.2); have e2 := hnl.out; omega)
          have hgg := Lib.hid (fun a ha => (hga a ha).1)
          have hff := Lib.hid (show ∀ a ∈ log, a.f1 ≤ 999999999 from fun a ha => by have := (hga a ha).2.1; omega)
          have HB := Lib.hid (hB6.out.trans (hW.out.mono hB6.out.size))
          have HBw := Lib.hid (below_then hB1.out hm1.out HB.out)
          have bP7 := cells8 (blk_below bP.out HB.out)
          have hS7 := Lib.hid (hS6.out.below hW.out)
          have hokt := Lib.hid (show SesOk P ⟨sh, log, []⟩ by rw [← stF_n hrun.out]; exact stF_ok hzP.out hrun.out hnl.out hI.out.s _)
          obtain ⟨st, hst⟩ : ∃ s, topOf sh = s := ⟨_, rfl⟩
          have hss := Lib.hid (show ShtS st by rw [← hst]; exact hokt.out.top)
          replace hst := Lib.hid hst
          replace ht1 := Lib.hid ht1
          have tok2 : True := trivial
          have tok3 : True := trivial
          clear hall hga htx hps hC6 hS6 hB6
          go_wp2_with (first
            | (go_at_call 17; go_must (refine (play_calls (P := P) (sh := sh) (log := log) (s0 := s0) (tabs_below hT HBw.out) (hP.below HBw.out) hz h2 h3 h4 hPz.out (hr.trans hrr.out) hrun.out hI.out.z hI.out.s hgg.out hff.out hI.out.al ht1.out hts.out hnl.out).mono ?_; rintro e w7 ⟨b2, g2, ow2, rfl, hSt, hb⟩; have hSs := Lib.hid (hS7.out.below hb); replace hSt := Lib.hid hSt; have hB7 := Lib.hid (below_step HBw.out hb); clear hb))
            | (go_at_call 19; have tq := tok2; go_must (clear tq tok2; refine (wsheet hSs.out hok.out).mono ?_; rw [show (SS.sh ⟨sh, log, on⟩) = sh from rfl, hst.out]; rintro e w8 ⟨u0, u1, rfl, R0, R1, hb, hSs8⟩; obtain ⟨D3, k3, rfl⟩ := Kd.R_slice R0; obtain ⟨D4, k4, rfl⟩ := Kd.R_slice R1; have q8 := Lib.hid (shtR_of R0 R1); replace hSs8 := Lib.hid hSs8; have hSt8 := Lib.hid (hSt.out.below hb); have hB8 := Lib.hid (below_step hB7.out hb); clear hb R0 R1))
            | (go_at_call 19; go_must (refine (wsheet hSt8.out hokt.out).mono ?_; rw [show (SS.sh ⟨sh, log, []⟩) = sh from rfl, hst.out]; rintro e w9 ⟨u0, u1, rfl, R0, R1, hb, hSt9⟩; obtain ⟨D5, k5, rfl⟩ := Kd.R_slice R0; obtain ⟨D6, k6, rfl⟩ := Kd.R_slice R1; have q9 := Lib.hid (shtR_of R0 R1); have p9 := Lib.hid (q8.out.below hb); replace hSt9 := Lib.hid hSt9; have hSs9 := Lib.hid (hSs8.out.below hb); have hB9 := Lib.hid (below_step hB8.out hb); clear hb R0 R1))
            | (go_at_call 18; go_must (refine (rebusref23_Same.calls hss.out.l hss.out.m p9.out q9.out).mono ?_; rintro e w10 ⟨rfl, hb⟩; have hSs10 := Lib.hid (hSs9.out.below hb); have hSt10 := Lib.hid (hSt9.out.below hb); have hB10 := Lib.hid (below_step hB9.out hb); clear hb))
            | (go_at_call 16; have tq := tok3; go_must (clear tq tok3; refine (wlog hSs10.out hok.out).mono ?_; rw [show (SS.log ⟨sh, log, on⟩) = log from rfl]; rintro e w11 ⟨u, rfl, hl, hb, _⟩; obtain ⟨D7, k7, rfl⟩ := Kd.R_slice hl; replace hl := Lib.hid hl; have hSt11 := Lib.hid (hSt10.out.below hb); have hB11 := Lib.hid (below_step hB10.out hb); clear hb))
            | (go_at_call 16; go_must (refine (wlog hSt11.out hokt.out).mono ?_; rw [show (SS.log ⟨sh, log, []⟩) = log from rfl]; rintro e w12 ⟨u, rfl, hl2, hb, _⟩; obtain ⟨D8, k8, rfl⟩ := Kd.R_slice hl2; have hl3 := Lib.hid (Kd.R_below hl.out hb); replace hl2 := Lib.hid hl2; have hB12 := Lib.hid (below_step hB11.out hb); clear hb))
            | (go_at_call 8; go_must (have g1 := Kd.R_reads' hl3.out; have g2_ := Kd.R_reads' hl2.out; refine (same24_calls (by have := hnl.out; omega) g1.2.2 g1.2.1 g2_.2.2 g2_.2.1).mono ?_; rintro e w13 ⟨rfl, hb⟩; have hB13 := Lib.hid (below_step hB12.out hb); clear hb g1 g2_)))
          go_ret
          exact ⟨rfl, hB13.out⟩
end Go.Proofs.YtjopbfidjapmbaaGreatDoor.Q
end
section
namespace Go.Proofs.YtjopbfidjapmbaaGreatDoor.rep
open Go.ChangeShapes Go.WideShapes Go.ChangeAt Go.RowKit Go.Joins
open Go.Proofs.YtjopbfidjapmbaaGreatDoor.Q Go.Proofs.YtjopbfidjapmbaaGreatDoorS
set_option maxRecDepth 100000
def wArgs : Array Value := #[.agg #[.string ⟨#[]⟩, .int .i64 0, .int .i64 0, .slice none 0 0, .slice none 0 0, .slice none 0 0, .slice none 0 0, .slice none 0 0], .slice none 0 0]
def wData {H : Type} : List (DataW H) := [.agg [.lit (.string []), .agg [.lit (.int .i64 0), .lit (.int .i64 0), .nil, .nil, .nil], .nil, .nil], .nil]
theorem laid_met (os : Os) : laidMet Tryz.prog Rows.sessionReplaysUptoRow.laid ((laidWorld os).forCall (fun _ _ => 0) ⟨#[], wArgs, []⟩).memory :=
  laidMet_of_run' 8 (by kernel_rfl) (by kernel_rfl)
theorem reads (os : Os) {H : Type} (enc : TypeId × Value → H) : ∃ places, DataW.whole enc Tryz.prog ((laidWorld os).forCall (fun _ _ => 0) ⟨#[], wArgs, []⟩).memory Tryz.f4.params.toList Rows.sessionReplaysSpec.vars false wArgs.toList 8 = some (wData, [], places) :=
  ⟨[], by kernel_rfl⟩
theorem contract (H : Type) (enc : TypeId × Value → H) (W : World) (base : Nat) (args : Array Value) (ds gs : List (DataW H)) (before : List MemPlace)
    (hval : ∀ (j : Nat) t v, Tryz.f4.params[j]? = some t → args[j]? = some v → Value.okWide Tryz.prog W .any base t v)
    (hW : DataW.Whole enc Tryz.prog Tryz.f4.params.toList Rows.sessionReplaysSpec.vars false W args.toList ds gs before) (hL : laidMetH Tryz.prog Rows.sessionReplaysUptoRow.laid W) (hSh : W.ShapedOpen Tryz.prog) (hk : Rows.uptoSmall H (ds ++ gs) = true) :
    Calls Tryz.prog 4 args W fun e W' => ∃ v, e = .returned v ∧ Rows.sessionReplaysSpec.post enc Tryz.prog Tryz.f4 false true false false W args v W' := by
  have hW' := hW
  obtain ⟨p, q, hA0, hV, rfl, hfz, hnd⟩ := hW
  have hA : DataW.TrodAll enc Tryz.prog W 0 (fun _ => true) true Tryz.f4.params.toList args.toList ds p := hA0
  rw [Tryz.params4] at hA hval
  obtain ⟨v0, v1, d0, d1, p0, p1, rfl, rfl, rfl, h0, h1⟩ := trodAll_two hA
  obtain ⟨rfl, rfl⟩ := trodVars_none hV
  simp only [List.append_nil] at hk
  have hb := bulk_bound hk
  simp only [Rows.uptoBulkAll] at hb
  obtain ⟨title, Hh, Ww, A2, c2, bl, A3, c3, ri, A4, c4, be, A5, c5, cells, A6, c6, clues, rfl, hP, hz⟩ := open_puzzle (hval 0 42 v0 rfl rfl) h0
  obtain ⟨A9, c9, ops, rfl, hA9, hco, ha⟩ := open_ops (hval 1 43 v1 rfl rfl) h1
  refine (SessionReplays.calls (tabs_of_laid hL hSh) hP hA9 hco (hz (by omega)).1 (hz (by omega)).2.1 (hz (by omega)).2.2.1 (hz (by omega)).2.2.2 (ha (by omega)).1 (ha (by omega)).2).mono fun e W' ⟨he, hbel⟩ => ?_
  subst he
  have hlt : ∀ x ∈ p0 ++ (p1), x.block < W.heap.size := fun x hx => hW'.lt x (by simpa using hx)
  refine ⟨_, rfl, post_of_below (pa := p0 ++ (p1)) (pv := []) hW' (fun _ _ _ => trodAll_mk1 (shut_bool Tryz.underlying4 true)) (fun sp hsp => ?_) (fun _ _ => rfl) (by simp) hbel (ok_one (by kernel_rfl) rfl (okWide_bool_mk Tryz.underlying4 _))⟩
  have stay : ∀ {t : TypeId} {v : Value} {d : DataW H} {ps : List MemPlace}, Tryz.prog.readableRec t = true → t < Tryz.prog.types.size → DataW.Trod enc Tryz.prog W 0 (fun _ => true) true t v d ps → (∀ x ∈ ps, x ∈ p0 ++ (p1)) → DataW.Trod enc Tryz.prog W' 0 sp true t v d ps := fun hr hrow h hin =>
    WideElems.Trod_stays laid_out hr hrow h (fun x hx => hbel.same (hlt x (hin x hx))) (fun x hx => hsp x (by simpa using hin x hx))
  exact trodAll_mk2 (stay (by kernel_rfl) (of_decide_eq_true (by kernel_rfl)) h0 (fun x hx => List.mem_append_left _ hx)) (stay (by kernel_rfl) (of_decide_eq_true (by kernel_rfl)) h1 (fun x hx => List.mem_append_right _ (hx)))
theorem liftedUpto (os : Os) (started : os.Started) (H : Type) (enc : TypeId × Value → H) (F : Stop.Interp) :
    ReturnsInHanded {} Tryz.checked os 4 .any ((Rows.OpenSpec.upto Rows.sessionReplaysSpec).preRow enc Tryz.prog Tryz.f4 Rows.sessionReplaysUptoRow.domain false Rows.sessionReplaysUptoRow.laid) (((Rows.OpenSpec.upto Rows.sessionReplaysSpec).at F).post enc Tryz.prog Tryz.f4 false true false false) := by
  obtain ⟨places, hx⟩ := reads os enc
  refine returnsInHanded_of_row (C := Tryz.checked) (s := Rows.OpenSpec.upto Rows.sessionReplaysSpec) own_knob started (by kernel_rfl) Tryz.func4
    (witness_row_atRef (enc := enc) (C := Tryz.checked) false (laidWorld os) wArgs rfl (by kernel_rfl) (by kernel_rfl) (by kernel_rfl)
      (OpenSpec.preRow_of_cond 8 hx (by kernel_rfl) (fun k hk => by cases hk; kernel_rfl) (by kernel_rfl) (laid_met os))) ?_
  intro W base args ds gs before hval hW _ hcond _ hL hSh _
  exact contract H enc W base args ds gs before hval hW hL hSh (hcond _ rfl)
theorem saidUpto : Rows.SessionReplaysUptoSaid :=
  OpenClaim.holds_of_cond 4 Tryz.f4 rfl rfl rfl rfl rfl rfl rfl ⟨rfl, rfl, rfl, rfl, rfl⟩ rfl rfl rfl rfl rfl (by kernel_rfl) Tryz.func4 (by kernel_rfl)
    (of_decide_eq_true (by kernel_rfl)) (by unfold Func.isWrapper; first | (rw [if_pos (by decide +kernel)]; kernel_rfl) | (rw [if_neg (by decide +kernel)]; exact ⟨rfl, rfl⟩))
    (fun os started H enc _ F => by rw [OpenClaim.pre_eq_preRow]; exact liftedUpto os started H enc F)
theorem plain (f : FuncId) (fn : Func) (hf : Tryz.pinned.checked.prog.funcNamed "rebus/rebuslaw24.SessionReplays" = some f) (hfn : Tryz.pinned.checked.prog.funcs[f]? = some fn) :
    true = Tryz.pinned.checked.prog.looks [] ∧ ∀ (j : Nat) t, fn.params[j]? = some t → Tryz.pinned.checked.prog.wantsStandIn t = false := by
  obtain rfl : f = 4 := Option.some.inj ((show Tryz.prog.funcNamed "rebus/rebuslaw24.SessionReplays" = some 4 by kernel_rfl).symm.trans hf) |>.symm
  obtain rfl : fn = Tryz.f4 := (Option.some.inj (Tryz.func4.symm.trans hfn)).symm
  refine ⟨by kernel_rfl, fun j t ht => ?_⟩
  rw [Tryz.params4] at ht
  have hm : t ∈ #[42, 43] := Array.mem_of_getElem? ht
  simp only [List.mem_toArray, List.mem_cons, List.not_mem_nil, or_false] at hm
  rcases hm with rfl | rfl
  · exact (show Tryz.prog.wantsStandIn 42 = false by kernel_rfl)
  · exact (show Tryz.prog.wantsStandIn 43 = false by kernel_rfl)
theorem cardUpto : Rows.SessionReplaysUptoCardSaid :=
  Claim7.holds_tied_plain_at .later [] _ _ _ _ saidUpto (fun _ h => by cases h) (by kernel_rfl) (fun _ h => by cases h) sessionReplaysUpto_row_tie rfl ⟨rfl, rfl⟩ (by kernel_rfl) rfl plain (by kernel_rfl)
end Go.Proofs.YtjopbfidjapmbaaGreatDoor.rep
end
#print axioms Go.Proofs.YtjopbfidjapmbaaGreatDoor.rep.cardUpto
