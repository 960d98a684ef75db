/- PART 14 OF A PROOF: Lean functions, and that the program computes them; written by hand and by a program. Not trusted: Lean checks it. -/
import Derived.Test.YtjopbfidjapmbaaGreatDoorRa2
import Derived.Test.YtjopbfidjapmbaaGreatDoorRa12
import Derived.Test.YtjopbfidjapmbaaGreatDoorRa13
set_option linter.unusedVariables false
set_option linter.unusedSimpArgs false
namespace Go.Proofs.YtjopbfidjapmbaaGreatDoor.Q
open Go.RowKit Go.Proofs.YtjopbfidjapmbaaGreatDoorW.PrintWords Go.Proofs.YtjopbfidjapmbaaGreatDoorW.PrintLast Go.Proofs.YtjopbfidjapmbaaGreatDoorW.PrintMore
set_option linter.unusedVariables false
set_option linter.unusedSimpArgs false
open Go.Proofs.YtjopbfidjapmbaaGreatDoorS
abbrev Sht := List ByteArray × List Bool × Int × Bool
abbrev Act3 := S35
def kSht : Kd Sht := Kd.pair (Kd.slice 9 Kd.string) (Kd.pair (Kd.slice 4 Kd.bool) (Kd.pair (Kd.int .i64) Kd.bool))
abbrev kAct : Kd Act3 := k35
theorem kSht_made {w : World} {base : Nat} {ok : Nat → Prop} {x : Sht} {v0 v1 : Value} (h0 : Kd.R Kd.string 9 w base ok v0 x.1) (h1 : Kd.R Kd.bool 4 w base ok v1 x.2.1) : kSht.M w base ok x [v0, v1, .int .i64 x.2.2.1, .bool x.2.2.2] :=
  ⟨[v0], _, rfl, ⟨v0, rfl, h0⟩, [v1], _, rfl, ⟨v1, rfl, h1⟩, [_], [_], rfl, rfl, rfl⟩
theorem kSht_K {w : World} {x : Sht} {cs : List Value} (h : kSht.K w x cs) : ∃ A7 c7 A8 c8, cs = [.slice A7 x.1.length c7, .slice A8 x.2.1.length c8, .int .i64 x.2.2.1, .bool x.2.2.2] ∧ ShtR A7 c7 x.1 A8 c8 x.2.1 w := by
  obtain ⟨c0, c1, rfl, ⟨A7, c7, rfl, l7, h0⟩, c2, c3, rfl, ⟨A8, c8, rfl, l8, h1⟩, c4, c5, rfl, h2, h3⟩ := h
  obtain rfl := h2
  obtain rfl := h3
  exact ⟨A7, c7, A8, c8, rfl, h0, l7, h1, l8⟩
def rdSht (xs : List Sht) (i : Int) : Sht := xs.getD i.toNat ([], [], 0, false)
abbrev rdAct := rd_T35
theorem at_sht {w : World} {A : Option Addr} {n : Nat} {xs : List Sht} (h : Kd.C kSht w A n xs) (i : Int) (h0 : 0 ≤ i) (h1 : i < n) :
    ∃ ad A7 c7 A8 c8, A = some ad ∧ w.cell? (ad.add (i.toNat * 4)) = some (.slice A7 (rdSht xs i).1.length c7) ∧ w.cell? ⟨(ad.add (i.toNat * 4)).block, (ad.add (i.toNat * 4)).off + 1, none⟩ = some (.slice A8 (rdSht xs i).2.1.length c8) ∧ w.cell? ⟨(ad.add (i.toNat * 4)).block, (ad.add (i.toNat * 4)).off + 2, none⟩ = some (.int .i64 (rdSht xs i).2.2.1) ∧ w.cell? ⟨(ad.add (i.toNat * 4)).block, (ad.add (i.toNat * 4)).off + 3, none⟩ = some (.bool (rdSht xs i).2.2.2) ∧ ShtR A7 c7 (rdSht xs i).1 A8 c8 (rdSht xs i).2.1 w := by
  obtain ⟨ad, c, e, _, hK, hc0⟩ := Kd.C_get h ([], [], 0, false) i h0 h1
  have hc : ∀ j u, c[j]? = some u → w.cell? (ad.add (i.toNat * 4 + j)) = some u := hc0
  obtain ⟨A7, c7, A8, c8, rfl, hS⟩ := kSht_K hK
  exact ⟨ad, A7, c7, A8, c8, e, hc 0 _ rfl, by rw [← add_field _ _ 1 (by omega)]; exact hc 1 _ rfl, by rw [← add_field _ _ 2 (by omega)]; exact hc 2 _ rfl, by rw [← add_field _ _ 3 (by omega)]; exact hc 3 _ rfl, hS⟩
structure Puz where
  t : ByteArray
  H : Int
  W : Int
  bl : List Bool
  ri : List Bool
  be : List Bool
  cells : List ByteArray
  clues : List ByteArray
structure SS where
  sh : List Sht
  log : List Act3
  on : List Act3
def topOf (l : List Sht) : Sht := rdSht l ((l.length : Int) - 1)
def lastOf (l : List Act3) : Act3 := rdAct l ((l.length : Int) - 1)
def doP (P : Puz) (s : Sht) (a : Act3) : Sht × Int :=
  (((doOf P.t P.H P.W P.bl P.ri P.be P.cells P.clues s.1 s.2.1 s.2.2.1 s.2.2.2 a.f0 a.f1 a.f2).1, (doOf P.t P.H P.W P.bl P.ri P.be P.cells P.clues s.1 s.2.1 s.2.2.1 s.2.2.2 a.f0 a.f1 a.f2).2.1, (doOf P.t P.H P.W P.bl P.ri P.be P.cells P.clues s.1 s.2.1 s.2.2.1 s.2.2.2 a.f0 a.f1 a.f2).2.2.1, (doOf P.t P.H P.W P.bl P.ri P.be P.cells P.clues s.1 s.2.1 s.2.2.1 s.2.2.2 a.f0 a.f1 a.f2).2.2.2.1), (doOf P.t P.H P.W P.bl P.ri P.be P.cells P.clues s.1 s.2.1 s.2.2.1 s.2.2.2 a.f0 a.f1 a.f2).2.2.2.2)
def sAct (P : Puz) (S : SS) (a : Act3) : SS × Int := if (doP P (topOf S.sh) a).2 = 0 then (⟨S.sh ++ [(doP P (topOf S.sh) a).1], S.log ++ [a], S.on⟩, 0) else (S, (doP P (topOf S.sh) a).2)
def sDo (P : Puz) (S : SS) (a : Act3) : SS × Int := if 2000 ≤ S.log.length then (S, 32) else if (sAct P S a).2 = 0 then (⟨(sAct P S a).1.sh, (sAct P S a).1.log, []⟩, 0) else sAct P S a
def sUndo (S : SS) : SS × Int := if S.log.length = 0 then (S, 240) else (⟨S.sh.take (S.sh.length - 1), S.log.take (S.log.length - 1), S.on ++ [lastOf S.log]⟩, 0)
def sRedo (P : Puz) (S : SS) : SS × Int := if S.on.length = 0 then (S, 241) else sAct P ⟨S.sh, S.log, S.on.take (S.on.length - 1)⟩ (lastOf S.on)
structure SesV (own : Nat → Prop) (w : World) (base g : Nat) (P : Puz) (v2 v3 v4 v5 v6 vs vl vo : Value) (sh : List Sht) (log on : List Act3) : Prop where
  blk : w.heap[g]? = some (.cells #[.string P.t, .int .i64 P.H, .int .i64 P.W, v2, v3, v4, v5, v6, vs, vl, vo] 85 (0, 0))
  ge : base ≤ g
  og : own g
  r2 : Kd.R Kd.bool 4 w base own v2 P.bl
  r3 : Kd.R Kd.bool 4 w base own v3 P.ri
  r4 : Kd.R Kd.bool 4 w base own v4 P.be
  r5 : Kd.R Kd.string 9 w base own v5 P.cells
  r6 : Kd.R Kd.string 9 w base own v6 P.clues
  rs : Kd.R kSht 57 w base own vs sh
  rl : Kd.R kAct 35 w base (fun k => own k ∧ some k ≠ vo.ownBlock) vl log
  ro : Kd.R kAct 35 w base (fun k => own k ∧ some k ≠ vl.ownBlock) vo on
def Ses (own : Nat → Prop) (w : World) (base g : Nat) (P : Puz) (S : SS) : Prop := ∃ v2 v3 v4 v5 v6 vs vl vo, SesV own w base g P v2 v3 v4 v5 v6 vs vl vo S.sh S.log S.on
section
variable {own own' S : Nat → Prop} {w w' : World} {base g : Nat} {P : Puz} {v2 v3 v4 v5 v6 vs vl vo : Value} {sh : List Sht} {log on : List Act3}
theorem SesV.kept (h : SesV own w base g P v2 v3 v4 v5 v6 vs vl vo sh log on) (hk : Kept w w' S) (hn : ∀ k, own k → ¬ S k) : SesV own w' base g P v2 v3 v4 v5 v6 vs vl vo sh log on :=
  ⟨blk_kept h.blk hk (hn g h.og), h.ge, h.og, Kd.R_kept h.r2 hk hn, Kd.R_kept h.r3 hk hn, Kd.R_kept h.r4 hk hn, Kd.R_kept h.r5 hk hn, Kd.R_kept h.r6 hk hn, Kd.R_kept h.rs hk hn, Kd.R_kept h.rl hk (fun k hk => hn k hk.1), Kd.R_kept h.ro hk (fun k hk => hn k hk.1)⟩
theorem SesV.below (h : SesV own w base g P v2 v3 v4 v5 v6 vs vl vo sh log on) (hb : Below w.heap.size w w') : SesV own w' base g P v2 v3 v4 v5 v6 vs vl vo sh log on := h.kept (Kept.of_below hb (fun _ => False)) (fun _ _ h => h)
theorem SesV.mono (h : SesV own w base g P v2 v3 v4 v5 v6 vs vl vo sh log on) (hn : ∀ k, own k → own' k) : SesV own' w base g P v2 v3 v4 v5 v6 vs vl vo sh log on :=
  ⟨h.blk, h.ge, hn g h.og, Kd.R_mono h.r2 hn, Kd.R_mono h.r3 hn, Kd.R_mono h.r4 hn, Kd.R_mono h.r5 hn, Kd.R_mono h.r6 hn, Kd.R_mono h.rs hn, Kd.R_mono h.rl (fun k hk => ⟨hn k hk.1, hk.2⟩), Kd.R_mono h.ro (fun k hk => ⟨hn k hk.1, hk.2⟩)⟩
theorem SesV.trim (h : SesV own w base g P v2 v3 v4 v5 v6 vs vl vo sh log on) : SesV (fun k => own k ∧ k < w.heap.size) w base g P v2 v3 v4 v5 v6 vs vl vo sh log on :=
  ⟨h.blk, h.ge, ⟨h.og, blk_lt h.blk⟩, Kd.R_mono (Kd.R_bound h.r2) (fun k hk => ⟨hk.1, hk.2.2.1⟩), Kd.R_mono (Kd.R_bound h.r3) (fun k hk => ⟨hk.1, hk.2.2.1⟩), Kd.R_mono (Kd.R_bound h.r4) (fun k hk => ⟨hk.1, hk.2.2.1⟩), Kd.R_mono (Kd.R_bound h.r5) (fun k hk => ⟨hk.1, hk.2.2.1⟩), Kd.R_mono (Kd.R_bound h.r6) (fun k hk => ⟨hk.1, hk.2.2.1⟩), Kd.R_mono (Kd.R_bound h.rs) (fun k hk => ⟨hk.1, hk.2.2.1⟩), Kd.R_mono (Kd.R_bound h.rl) (fun k hk => ⟨⟨hk.1.1, hk.2.2.1⟩, hk.1.2⟩), Kd.R_mono (Kd.R_bound h.ro) (fun k hk => ⟨⟨hk.1.1, hk.2.2.1⟩, hk.1.2⟩)⟩
theorem SesV.puz (h : SesV own w base g P v2 v3 v4 v5 v6 vs vl vo sh log on) : ∃ A2 c2 A3 c3 A4 c4 A5 c5 A6 c6, v2 = .slice A2 P.bl.length c2 ∧ v3 = .slice A3 P.ri.length c3 ∧ v4 = .slice A4 P.be.length c4 ∧ v5 = .slice A5 P.cells.length c5 ∧ v6 = .slice A6 P.clues.length c6 ∧ PuzR A2 c2 P.bl A3 c3 P.ri A4 c4 P.be A5 c5 P.cells A6 c6 P.clues w := by
  obtain ⟨A2, c2, rfl, k2, q2⟩ := Kd.R_reads h.r2
  obtain ⟨A3, c3, rfl, k3, q3⟩ := Kd.R_reads h.r3
  obtain ⟨A4, c4, rfl, k4, q4⟩ := Kd.R_reads h.r4
  obtain ⟨A5, c5, rfl, k5, q5⟩ := Kd.R_reads h.r5
  obtain ⟨A6, c6, rfl, k6, q6⟩ := Kd.R_reads h.r6
  exact ⟨A2, c2, A3, c3, A4, c4, A5, c5, A6, c6, rfl, rfl, rfl, rfl, rfl, q2, k2, q3, k3, q4, k4, q5, k5, q6, k6⟩
end
end Go.Proofs.YtjopbfidjapmbaaGreatDoor.Q
