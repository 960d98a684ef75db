/- PART 12 OF A PROOF: Lean functions, and that the program computes them; written by hand and by a program. Not trusted: Lean checks it. -/
import Derived.Deep.DeepHandedRow
import Derived.Deep.DeepWitnessRowRef
import Derived.Deep.Grids
import Derived.Lib.LaidIn
import Derived.Lib.LaidU8T
import Derived.Lib.SmallJoins
import Derived.ProofKit
import Derived.SliceStrings
import Derived.Test.YtplhkfppjemjmaaDoorRows
import Derived.Test.YtplhkfppjemjmaaDoorBa3
import Derived.Test.YtplhkfppjemjmaaDoorBa11
set_option linter.unusedVariables false
set_option linter.unusedSimpArgs false
section
namespace Go.Proofs.YtplhkfppjemjmaaDoor.Q
open Go.RowKit Go.Proofs.YtplhkfppjemjmaaDoorW.PrintWords Go.Proofs.YtplhkfppjemjmaaDoorW.PrintLast Go.Proofs.YtplhkfppjemjmaaDoorW.PrintMore
open Go.ChangeShapes Go.WideShapes Go.ChangeAt Go.Joins
set_option linter.unusedVariables false
open Go.Proofs.YtplhkfppjemjmaaDoorS
theorem bulk_pos {H : Type} (d : DataW H) : 1 ≤ Rows.uptoBulk d := by
  cases d with
  | lit l => cases l <;> simp [Rows.uptoBulk]
  | _ => simp [Rows.uptoBulk]
theorem bulk_part {H : Type} {d : DataW H} {l : List (DataW H)} (h : d ∈ l) : Rows.uptoBulk d ≤ Rows.uptoBulkAll l := by
  induction l with
  | nil => cases h
  | cons x r ih =>
    simp only [Rows.uptoBulkAll]
    rcases List.mem_cons.1 h with rfl | e
    · omega
    · have := ih e; omega
theorem bulk_length {H : Type} (l : List (DataW H)) : l.length ≤ Rows.uptoBulkAll l := by
  induction l with
  | nil => simp [Rows.uptoBulkAll]
  | cons x r ih => have := bulk_pos x; simp only [Rows.uptoBulkAll, List.length_cons]; omega
theorem bulk_bound {H : Type} {l : List (DataW H)} (hk : Rows.uptoSmall H l = true) : Rows.uptoBulkAll l ≤ 1048576 := of_decide_eq_true hk
theorem C_cells {α : Type} {enc : α → Value} {h1 : ∀ x, (enc x).oneCell' = true} {w : World} {a : Addr} {l : List α} (hl : l.length ≤ 9223372036854775807) (hc : ∀ i (h : i < l.length), w.cell? (a.add i) = some (enc l[i])) : (Kd.scalar enc h1).C w (some a) l.length l :=
  ⟨rfl, hl, fun _ => ⟨a, rfl, fun j p hj => ⟨[enc p], rfl, rfl, fun i u hu => by
    cases i with
    | zero =>
      obtain ⟨h, e⟩ := List.getElem?_eq_some_iff.1 hj
      subst e
      simp only [List.getElem?_cons_zero, Option.some.injEq] at hu
      subst hu
      have e1 : j * (Kd.scalar enc h1).sz + 0 = j := by show j * 1 + 0 = j; omega
      rw [e1]
      exact hc j h
    | succ i => simp at hu⟩⟩⟩
theorem C_none {α : Type} {enc : α → Value} {h1 : ∀ x, (enc x).oneCell' = true} {w : World} : (Kd.scalar enc h1).C w none 0 [] := ⟨rfl, by omega, fun h => absurd h (by omega)⟩
section
variable {H : Type} {enc : TypeId × Value → H} {P : Program} {w : World}
theorem open_strs_f {t e n : Nat} {cs : List Value} {x : DataW H × List MemPlace} (ht : P.underlying t = some (.slice e)) (he : P.underlying e = some .string) (hc : P.cellsOf e = 1) (h : DataW.trod enc P w 0 (fun _ => true) true n t cs = some x) :
    ∃ A c l, cs = [.slice A l.length c] ∧ Kd.C Kd.string w A l.length l ∧ l.length ≤ c ∧ l.length ≤ Rows.uptoBulk x.1 ∧ ∀ s ∈ l, s.size ≤ Rows.uptoBulk x.1 := by
  rcases open_strings ht he hc h with ⟨rfl, rfl⟩ | ⟨a, len, cap, ss, rfl, _, hl, hm, hz, rfl, hcell, _⟩
  · exact ⟨none, 0, [], rfl, C_none, Nat.le_refl _, Nat.zero_le _, fun s hs => by cases hs⟩
  · simp only [if_true] at hz
    have hlen : (ss.take len).length = len := by rw [List.length_take]; omega
    have hb : Rows.uptoBulkAll (strs (H := H) (ss.take len)) + 1 ≤ Rows.uptoBulk (DataW.slice (strs (H := H) (ss.take len)) (strs (ss.drop len))) := by simp only [Rows.uptoBulk]; omega
    refine ⟨some a, cap, ss.take len, by rw [hlen], C_cells (by unfold maxLen at hm; omega) (fun i hi => ?_), by omega, ?_, fun s hs => ?_⟩
    · rw [hcell i (by omega), List.getElem_take, List.getD_eq_getElem?_getD, List.getElem?_eq_getElem (by omega)]; rfl
    · have := bulk_length (strs (H := H) (ss.take len))
      simp only [strs, List.length_map] at this
      show _ ≤ Rows.uptoBulk (DataW.slice (strs (H := H) (ss.take len)) (strs (ss.drop len)))
      simp only [strs] at hb ⊢
      omega
    · have := bulk_part (H := H) (d := .lit (.string s.data.toList)) (l := strs (ss.take len)) (List.mem_map.2 ⟨s, hs, rfl⟩)
      have e1 : Rows.uptoBulk (DataW.lit (H := H) (.string s.data.toList)) = s.size + 1 := by simp [Rows.uptoBulk]
      show _ ≤ Rows.uptoBulk (DataW.slice (strs (H := H) (ss.take len)) (strs (ss.drop len)))
      omega
theorem bools_bulk {a : Addr} {len cap n : Nat} {B : Nat → Bool} (h : n = len) : n ≤ Rows.uptoBulk (Go.Deep.boolRow (H := H) (some a) len cap B) := by
  subst h
  unfold Go.Deep.boolRow
  simp only [Rows.uptoBulk]
  have := bulk_length (H := H) ((List.range n).map fun i => .lit (.bool (B i)))
  simp only [List.length_map, List.length_range] at this
  omega
theorem open_bools_f {t e n : Nat} {cs : List Value} {x : DataW H × List MemPlace} (ht : P.underlying t = some (.slice e)) (he : P.underlying e = some .bool) (hc : P.cellsOf e = 1) (h : DataW.trod enc P w 0 (fun _ => true) true n t cs = some x) :
    ∃ A c l, cs = [.slice A l.length c] ∧ Kd.C Kd.bool w A l.length l ∧ l.length ≤ c ∧ l.length ≤ Rows.uptoBulk x.1 := by
  rcases Go.Deep.open_bools ht he hc h with ⟨rfl, rfl⟩ | ⟨a, len, cap, B, rfl, _, hl, hm, rfl, hcell⟩
  · exact ⟨none, 0, [], rfl, C_none, Nat.le_refl _, Nat.zero_le _⟩
  · have hlen : ((List.range len).map B).length = len := by simp
    refine ⟨some a, cap, (List.range len).map B, by rw [hlen], C_cells (by unfold maxLen at hm; omega) (fun i hi => ?_), by omega, bools_bulk (a := a) hlen⟩
    rw [hcell i (by omega)]
    simp
theorem trod_struct5 {t : TypeId} {f0 f1 f2 f3 f4 : Field} {fuel : Nat} {cs : List Value} {x : DataW H × List MemPlace} (ht : P.underlying t = some (.struct #[f0, f1, f2, f3, f4])) (h : DataW.trod enc P w 0 (fun _ => true) true fuel t cs = some x) :
    ∃ y0 y1 y2 y3 y4 n, x.1 = .agg [y0.1, y1.1, y2.1, y3.1, y4.1] ∧ cs.length = P.cellsOf t ∧ DataW.trod enc P w 0 (fun _ => true) true n f0.type ((cs.drop f0.offset).take (P.cellsOf f0.type)) = some y0 ∧
      DataW.trod enc P w 0 (fun _ => true) true n f1.type ((cs.drop f1.offset).take (P.cellsOf f1.type)) = some y1 ∧ DataW.trod enc P w 0 (fun _ => true) true n f2.type ((cs.drop f2.offset).take (P.cellsOf f2.type)) = some y2 ∧
      DataW.trod enc P w 0 (fun _ => true) true n f3.type ((cs.drop f3.offset).take (P.cellsOf f3.type)) = some y3 ∧ DataW.trod enc P w 0 (fun _ => true) true n f4.type ((cs.drop f4.offset).take (P.cellsOf f4.type)) = some y4 := by
  obtain ⟨xs, n, _, rfl, hl, hlen, hf⟩ := DataW.trod_struct ht h
  match xs, hlen with
  | [y0, y1, y2, y3, y4], _ => exact ⟨y0, y1, y2, y3, y4, n, rfl, hl, by simpa using hf 0 f0 rfl, by simpa using hf 1 f1 rfl, by simpa using hf 2 f2 rfl, by simpa using hf 3 f3 rfl, by simpa using hf 4 f4 rfl⟩
end
theorem bulk_agg {H : Type} {d : DataW H} {l : List (DataW H)} (h : d ∈ l) : Rows.uptoBulk d ≤ Rows.uptoBulk (.agg l) := by
  have := bulk_part h
  simp only [Rows.uptoBulk]
  omega
set_option maxRecDepth 100000 in
theorem open_puzzle {H : Type} {enc : TypeId × Value → H} {w : World} {b : Nat} {v : Value} {d : DataW H} {p : List MemPlace} (hv : Value.okWide Tryd.prog w .any b 27 v) (h : DataW.Trod enc Tryd.prog w 0 (fun _ => true) true 27 v d p) :
    ∃ (title : ByteArray) (Hh Ww : Int) (A2 : Option Addr) (c2 : Nat) (bl : List Bool) (A3 : Option Addr) (c3 : Nat) (ri : List Bool) (A4 : Option Addr) (c4 : Nat) (be : List Bool) (A5 : Option Addr) (c5 : Nat) (cells : List ByteArray) (A6 : Option Addr) (c6 : Nat) (clues : List ByteArray),
      v = .agg #[.string title, .int .i64 Hh, .int .i64 Ww, .slice A2 bl.length c2, .slice A3 ri.length c3, .slice A4 be.length c4, .slice A5 cells.length c5, .slice A6 clues.length c6] ∧
      PuzR A2 c2 bl A3 c3 ri A4 c4 be A5 c5 cells A6 c6 clues w ∧ (Rows.uptoBulk d ≤ 1048576 → PuzS title cells clues ∧ bl.length ≤ 1048576 ∧ ri.length ≤ 1048576 ∧ be.length ≤ 1048576) := by
  obtain ⟨cs, rfl, hsz⟩ := okWide_struct Tryd.underlying27 hv
  obtain ⟨fuel, hf⟩ := h
  obtain ⟨y0, y1, y2, y3, n, hx, hl, g0, g1, g2, g3⟩ := trod_struct4 Tryd.underlying27 hf
  obtain ⟨z0, z1, z2, z3, z4, m, hz, hzl, k0, k1, k2, k3, k4⟩ := trod_struct5 Tryd.underlying24 g1
  have c27 : Tryd.prog.cellsOf 27 = 8 := by kernel_rfl
  have c24 : Tryd.prog.cellsOf 24 = 5 := by kernel_rfl
  have c25 : Tryd.prog.cellsOf 25 = 1 := by kernel_rfl
  have c22 : Tryd.prog.cellsOf 22 = 1 := by kernel_rfl
  have c9 : Tryd.prog.cellsOf 9 = 1 := by kernel_rfl
  have c4' : Tryd.prog.cellsOf 4 = 1 := by kernel_rfl
  have c3' : Tryd.prog.cellsOf 3 = 1 := by kernel_rfl
  obtain ⟨l⟩ := cs
  rw [c27] at hsz
  match l, hsz with
  | [e0, e1, e2, e3, e4, e5, e6, e7], _ =>
  simp only [Value.cells, c24, c25, c22, c9, c3', List.drop_succ_cons, List.drop_zero, List.take_succ_cons, List.take_zero] at g0 g1 g2 g3 k0 k1 k2 k3 k4
  obtain ⟨title, r0, r1, _⟩ := DataW.trod_string Tryd.underlying9 g0
  obtain ⟨Hh, r2, r3, _⟩ := DataW.trod_int Tryd.underlying3 k0
  obtain ⟨Ww, r4, r5, _⟩ := DataW.trod_int Tryd.underlying3 k1
  obtain ⟨A2, c2, bl, s2, t2, u2, v2⟩ := open_bools_f Tryd.underlying22 Tryd.underlying4 c4' k2
  obtain ⟨A3, c3, ri, s3, t3, u3, v3⟩ := open_bools_f Tryd.underlying22 Tryd.underlying4 c4' k3
  obtain ⟨A4, c4, be, s4, t4, u4, v4⟩ := open_bools_f Tryd.underlying22 Tryd.underlying4 c4' k4
  obtain ⟨A5, c5, cells, s5, t5, u5, v5, w5⟩ := open_strs_f Tryd.underlying25 Tryd.underlying9 c9 g2
  obtain ⟨A6, c6, clues, s6, t6, u6, v6, w6⟩ := open_strs_f Tryd.underlying25 Tryd.underlying9 c9 g3
  simp only [List.cons.injEq, and_true] at r0 r2 r4 s2 s3 s4 s5 s6
  subst r0 r2 r4 s2 s3 s4 s5 s6
  refine ⟨title, Hh, Ww, A2, c2, bl, A3, c3, ri, A4, c4, be, A5, c5, cells, A6, c6, clues, rfl, ⟨t2, u2, t3, u3, t4, u4, t5, u5, t6, u6⟩, fun hd => ?_⟩
  have hx1 : d = .agg [y0.1, y1.1, y2.1, y3.1] := congrArg Prod.fst hx
  rw [hx1] at hd
  have q0 := bulk_agg (H := H) (d := y0.1) (l := [y0.1, y1.1, y2.1, y3.1]) (by simp)
  have q2 := bulk_agg (H := H) (d := y2.1) (l := [y0.1, y1.1, y2.1, y3.1]) (by simp)
  have q3 := bulk_agg (H := H) (d := y3.1) (l := [y0.1, y1.1, y2.1, y3.1]) (by simp)
  have e0 : Rows.uptoBulk y0.1 = title.size + 1 := by rw [r1]; simp [Rows.uptoBulk]
  have q1 := bulk_agg (H := H) (d := y1.1) (l := [y0.1, y1.1, y2.1, y3.1]) (by simp)
  have e1 : Rows.uptoBulk y1.1 = Rows.uptoBulk (DataW.agg [z0.1, z1.1, z2.1, z3.1, z4.1]) := by rw [hz]
  have k2' := bulk_agg (H := H) (d := z2.1) (l := [z0.1, z1.1, z2.1, z3.1, z4.1]) (by simp)
  have k3' := bulk_agg (H := H) (d := z3.1) (l := [z0.1, z1.1, z2.1, z3.1, z4.1]) (by simp)
  have k4' := bulk_agg (H := H) (d := z4.1) (l := [z0.1, z1.1, z2.1, z3.1, z4.1]) (by simp)
  exact ⟨⟨by omega, fun s hs => by have := w5 s hs; omega, fun s hs => by have := w6 s hs; omega, by omega, by omega⟩, by omega, by omega, by omega⟩
def u8ren : Go.Shelf.Ren := ⟨fun n => n, fun | 119 => 138 | 138 => 140 | 139 => 141 | _ => 5, fun | 3 => 0 | _ => 1⟩
theorem u8types : U8Types Tryd.prog u8ren := ⟨by kernel_rfl, by kernel_rfl, by kernel_rfl, by kernel_rfl⟩
theorem accept_eq : (Rows.laid_unicode_utf8_acceptRanges : DataW Unit) = Lib.acceptData := by kernel_rfl
theorem first_eq : Rows.laid_unicode_utf8_first = Lib.firstData := by kernel_rfl
theorem tabs_of_laid {w : World} (h : laidMetH Tryd.prog [("unicode/utf8.acceptRanges", Rows.laid_unicode_utf8_acceptRanges), ("unicode/utf8.first", Rows.laid_unicode_utf8_first)] w) : Tabs w := by
  have h' : laidMet Tryd.prog [("unicode/utf8.acceptRanges", Lib.acceptData), ("unicode/utf8.first", Lib.firstData)] w := by rw [← accept_eq, ← first_eq]; exact h
  exact utf8Tabs_of_readsT u8types ⟨by kernel_rfl, by kernel_rfl, by kernel_rfl, by kernel_rfl, by kernel_rfl, by kernel_rfl, by kernel_rfl⟩ (Lib.laidMet.reads h' (.tail _ (.head _))) (Lib.laidMet.reads h' (.head _))
def putTab (h : Array Obj) (g : Nat) (cs : Array Value) : Array Obj := h.modify g fun
  | .cells _ t frozen => .cells cs t frozen
  | o => o
noncomputable def laidWorld (os : Os) : World :=
  { World.holding Tryd.prog os ⟨#[], #[], []⟩ with heap := putTab (putTab (World.holding Tryd.prog os ⟨#[], #[], []⟩).heap 0 (Lib.firstTab.map fun z => Value.int .u8 z).toArray) 1 ((List.range 16).flatMap fun i => [Value.int .u8 (Lib.accLo i), Value.int .u8 (Lib.accHi i)]).toArray }
theorem own_knob : ownKnob Tryd.prog.godebug = none := by kernel_rfl
theorem laid_out : laidOutB Tryd.prog = true := by kernel_rfl
section
variable {H : Type} {enc : TypeId × Value → H} {P : Program}
theorem post_of_below {f : Func} {s : ChangeSpec} {apart fresh handsOn again : Bool} {W W' : World} {args : Array Value} {v : Value} {ds gs : List (DataW H)} {before pa pv : List MemPlace}
    (hW : DataW.Whole enc P f.params.toList s.vars apart W args.toList ds gs before)
    (hres : ∀ (b : Nat) (sp : Nat → Bool) (hd : Bool), DataW.TrodAll enc P W' b sp hd f.resultTypes.toList (v.resultList f.resultTypes.size) (s.fn H (ds ++ gs)).results [])
    (hargs : ∀ sp : Nat → Bool, (∀ p ∈ before, sp p.block = true) → DataW.TrodAll enc P W' 0 sp true f.params.toList args.toList (s.fn H (ds ++ gs)).args pa)
    (hvars : ∀ sp : Nat → Bool, (∀ p ∈ before, sp p.block = true) → DataW.TrodVars enc P W' sp s.vars (s.fn H (ds ++ gs)).vars pv)
    (hps : before = pa ++ pv) (hb : Below W.heap.size W W')
    (hok : ∀ (j : Nat) (t : TypeId) (r : Value), f.resultTypes[j]? = some t → (v.resultList f.resultTypes.size)[j]? = some r → Value.okWide P W' .any 0 t r) :
    s.post enc P f apart fresh handsOn again W args v W' := by
  have hlt : ∀ p ∈ before, p.block < W.heap.size := fun p hp => hW.lt p hp
  have hold : ∀ p ∈ before, (fun b => decide (b < W.heap.size)) p.block = true := fun p hp => by simpa using hlt p hp
  refine ⟨ds, gs, before, [], pa, pv, hW, hres _ _ _, hargs _ hold, hvars _ hold, World.keptBut_mono (fun p hp => ⟨hp, ?_⟩) (hb.frame (· ∈ before)), fun _ => ?_⟩
  · rw [hps, List.mem_append] at hp
    exact Or.inr hp
  · obtain ⟨_, _, _, _, _, hz, hn⟩ := hW
    refine ⟨hok, _, _, ([] ++ pa) ++ pv, ⟨[] ++ pa, pv, trodAll_append (hargs _ (fun _ _ => rfl)) (hres _ _ _), hvars _ (fun _ _ => rfl), rfl, ?_, ?_⟩, ?_⟩
    · intro b off hp
      have hin : MemPlace.cell b off ∈ before := by rw [hps]; simpa using hp
      rw [hb.frozen (hlt _ hin)]
      exact hz b off hin
    · intro ha
      have := hn ha
      rw [hps] at this
      simpa using this
    · intro p hp _
      rw [hps]
      simpa using hp
end
end Go.Proofs.YtplhkfppjemjmaaDoor.Q
end
section
namespace Go.Proofs.YtplhkfppjemjmaaDoor.Q
open Go.RowKit Go.Proofs.YtplhkfppjemjmaaDoorW.PrintWords Go.Proofs.YtplhkfppjemjmaaDoorW.PrintLast Go.Proofs.YtplhkfppjemjmaaDoorW.PrintMore
set_option linter.unusedVariables false
abbrev ActV := Int × Int × ByteArray
structure ActsR (A : Option Addr) (c : Nat) (l : List ActV) (w : World) : Prop where
  n : l.length ≤ c
  m : l.length ≤ 9223372036854775807
  cell : ∀ (j : Nat) (x : ActV), l[j]? = some x → ∃ ad, A = some ad ∧ w.cell? (ad.add (j * 3)) = some (.int .i64 x.1) ∧ w.cell? ⟨(ad.add (j * 3)).block, (ad.add (j * 3)).off + 1, none⟩ = some (.int .i64 x.2.1) ∧ w.cell? ⟨(ad.add (j * 3)).block, (ad.add (j * 3)).off + 2, none⟩ = some (.string x.2.2)
theorem ActsR.below {A : Option Addr} {c : Nat} {l : List ActV} {w w' : World} (h : ActsR A c l w) (hb : Below w.heap.size w w') : ActsR A c l w' :=
  ⟨h.n, h.m, fun j x hx => by
    obtain ⟨ad, e, h0, h1, h2⟩ := h.cell j x hx
    exact ⟨ad, e, pw_cell_below hb h0, pw_cell_below hb h1, pw_cell_below hb h2⟩⟩
end Go.Proofs.YtplhkfppjemjmaaDoor.Q
end
section
namespace Go.Proofs.YtplhkfppjemjmaaDoor.Q
open Go.RowKit Go.Proofs.YtplhkfppjemjmaaDoorW.PrintWords Go.Proofs.YtplhkfppjemjmaaDoorW.PrintLast Go.Proofs.YtplhkfppjemjmaaDoorW.PrintMore
open Go.ChangeShapes Go.WideShapes Go.ChangeAt Go.Joins
set_option linter.unusedVariables false
theorem cells3_list {cs : List Value} (h : cs.length = 3) : ∃ a b c, cs = [a, b, c] := by
  match cs, h with
  | [a, b, c], _ => exact ⟨a, b, c, rfl⟩
set_option maxRecDepth 100000 in
theorem open_acts {H : Type} {enc : TypeId × Value → H} {w : World} {b : Nat} {v : Value} {d : DataW H} {p : List MemPlace} (hv : Value.okWide Tryd.prog w .any b 28 v) (h : DataW.Trod enc Tryd.prog w 0 (fun _ => true) true 28 v d p) :
    ∃ (A9 : Option Addr) (c9 : Nat) (acts : List ActV), v = .slice A9 acts.length c9 ∧ ActsR A9 c9 acts w ∧ (Rows.uptoBulk d ≤ 1048576 → acts.length ≤ 1048576 ∧ ∀ x ∈ acts, x.2.2.size ≤ 1048576) := by
  obtain ⟨a0, len0, cap0, rfl⟩ := okWide_slice Tryd.underlying28 hv
  obtain ⟨fuel, hf⟩ := h
  have c36 : Tryd.prog.cellsOf 36 = 3 := by kernel_rfl
  have c9' : Tryd.prog.cellsOf 9 = 1 := by kernel_rfl
  have c3' : Tryd.prog.cellsOf 3 = 1 := by kernel_rfl
  rcases DataW.trod_slice Tryd.underlying28 hf with ⟨hcs, hx⟩ | ⟨a, len, cap, elems, rest, n, _, hcs, hx, hb, hl, hm, hlen, hel, hsp, hns⟩
  · simp only [Value.cells, List.cons.injEq, and_true, Value.slice.injEq] at hcs
    obtain ⟨rfl, rfl, rfl⟩ := hcs
    exact ⟨none, 0, [], rfl, ⟨Nat.le_refl _, by simp, fun j x hx => by simp at hx⟩, fun _ => ⟨by simp, fun x hx => by simp at hx⟩⟩
  · simp only [Value.cells, List.cons.injEq, and_true, Value.slice.injEq] at hcs
    obtain ⟨rfl, rfl, rfl⟩ := hcs
    have each : ∀ i, i < len0 → ∃ x : ActV, (w.cell? (a.add (i * 3)) = some (.int .i64 x.1) ∧ w.cell? ⟨(a.add (i * 3)).block, (a.add (i * 3)).off + 1, none⟩ = some (.int .i64 x.2.1) ∧ w.cell? ⟨(a.add (i * 3)).block, (a.add (i * 3)).off + 2, none⟩ = some (.string x.2.2)) ∧ ∃ y ∈ elems, x.2.2.size + 1 ≤ Rows.uptoBulk y.1 := by
      intro i hi
      have hy := hel i hi
      obtain ⟨y, hye⟩ : ∃ y, elems[i]? = some y := ⟨elems[i]'(by omega), List.getElem?_eq_getElem (by omega)⟩
      rw [hye, c36, Option.bind_eq_some_iff] at hy
      obtain ⟨cs, hc, hd⟩ := hy
      obtain ⟨_, hcl, hcc⟩ := World.cells?_some hc
      obtain ⟨y0, y1, y2, m, hx2, _, g0, g1, g2⟩ := Go.Deep.trod_struct3 Tryd.underlying36 hd
      obtain ⟨e0, e1, e2, rfl⟩ := cells3_list hcl
      simp only [c9', c3', List.drop_succ_cons, List.drop_zero, List.take_succ_cons, List.take_zero] at g0 g1 g2
      obtain ⟨kind, q0, q1, _⟩ := DataW.trod_int Tryd.underlying3 g0
      obtain ⟨cell, q2, q3, _⟩ := DataW.trod_int Tryd.underlying3 g1
      obtain ⟨text, q4, q5, _⟩ := DataW.trod_string Tryd.underlying9 g2
      simp only [List.cons.injEq, and_true] at q0 q2 q4
      subst q0 q2 q4
      have h0 : w.cell? ((a.add (i * 3)).add 0) = some (.int .i64 kind) := hcc 0 (by omega)
      have h1 : w.cell? ((a.add (i * 3)).add 1) = some (.int .i64 cell) := hcc 1 (by omega)
      have h2 : w.cell? ((a.add (i * 3)).add 2) = some (.string text) := hcc 2 (by omega)
      refine ⟨(kind, cell, text), ⟨h0, h1, h2⟩, y, List.mem_of_getElem? hye, ?_⟩
      rw [hx2]
      show text.size + 1 ≤ Rows.uptoBulk (DataW.agg [y0.1, y1.1, y2.1])
      have hq := bulk_agg (H := H) (d := y2.1) (l := [y0.1, y1.1, y2.1]) (by simp)
      have e2 : Rows.uptoBulk y2.1 = text.size + 1 := by rw [q5]; simp [Rows.uptoBulk]
      omega
    obtain ⟨f, hf2⟩ := Go.Deep.choose_lt (α := ActV) each
    have hlen2 : ((List.range len0).map f).length = len0 := by simp
    have hget : ∀ (j : Nat) (x : ActV), ((List.range len0).map f)[j]? = some x → j < len0 ∧ x = f j := by
      intro j x hx
      simp only [List.getElem?_map, Option.map_eq_some_iff] at hx
      obtain ⟨k, hk, rfl⟩ := hx
      obtain ⟨h1, h2⟩ := List.getElem?_eq_some_iff.1 hk
      simp only [List.length_range, List.getElem_range] at h1 h2
      exact ⟨h1, by rw [h2]⟩
    refine ⟨some a, cap0, (List.range len0).map f, by rw [hlen2], ⟨by omega, by unfold maxLen at hm; omega, fun j x hx => ?_⟩, fun hd => ⟨?_, fun x hx => ?_⟩⟩
    · obtain ⟨h1, rfl⟩ := hget j x hx
      exact ⟨a, rfl, (hf2 j h1).1⟩
    · rw [hlen2]
      have h1 := bulk_length (elems.map (·.1))
      rw [List.length_map] at h1
      have h2 : Rows.uptoBulkAll (elems.map (·.1)) + 1 ≤ Rows.uptoBulk d := by
        have e : d = .slice (elems.map (·.1)) (rest.map (·.1)) := congrArg Prod.fst hx
        rw [e]
        simp only [Rows.uptoBulk]
        omega
      omega
    · obtain ⟨j, hj⟩ := List.getElem?_of_mem hx
      obtain ⟨h1, rfl⟩ := hget j x hj
      obtain ⟨y, hy, hs⟩ := (hf2 j h1).2
      have h3 := bulk_part (H := H) (d := y.1) (l := elems.map (·.1)) (List.mem_map.2 ⟨y, hy, rfl⟩)
      have h2 : Rows.uptoBulkAll (elems.map (·.1)) + 1 ≤ Rows.uptoBulk d := by
        have e : d = .slice (elems.map (·.1)) (rest.map (·.1)) := congrArg Prod.fst ‹(d, p) = _›
        rw [e]
        simp only [Rows.uptoBulk]
        omega
      omega
end Go.Proofs.YtplhkfppjemjmaaDoor.Q
end
section
namespace Go.Proofs.YtplhkfppjemjmaaDoor.Q
open Go.RowKit Go.Proofs.YtplhkfppjemjmaaDoorW.PrintWords Go.Proofs.YtplhkfppjemjmaaDoorW.PrintLast Go.Proofs.YtplhkfppjemjmaaDoorW.PrintMore
set_option linter.unusedVariables false
set_option linter.unusedSimpArgs false
open Go.Proofs.YtplhkfppjemjmaaDoorS
theorem firstOpen_step {bl : List Bool} {n i : Nat} (hi : i < n) : firstOpen bl (n - i) i = if rdOf false bl (i : Int) then firstOpen bl (n - (i + 1)) (i + 1) else (i : Int) := by
  obtain ⟨d, hd⟩ : ∃ d, n - i = d + 1 := ⟨n - i - 1, by omega⟩
  rw [hd, show n - (i + 1) = d by omega]
  rfl
theorem firstOpen_lt (bl : List Bool) : ∀ d i, firstOpen bl d i < (i + d : Nat) ∧ -1 ≤ firstOpen bl d i
  | 0, i => ⟨by simp only [firstOpen]; omega, by simp [firstOpen]⟩
  | d + 1, i => by
    have := firstOpen_lt bl d (i + 1)
    simp only [firstOpen]
    split
    · omega
    · omega
set_option maxHeartbeats 8000000 in
set_option maxRecDepth 1000000 in
theorem index_calls {A : Option Addr} {c : Nat} {bl : List Bool} {w : World} (hl : bl.length ≤ 1048576) (h : Kd.C Kd.bool w A bl.length bl) :
    Calls Tryd.prog 24 #[.slice A bl.length c, .bool false] w fun e w' => e = .returned (.int .i64 (firstOpen bl bl.length 0)) ∧ Below w.heap.size w w' := by
  obtain ⟨V, hV⟩ : ∃ V, firstOpen bl bl.length 0 = V := ⟨_, rfl⟩
  rw [hV]
  go_enter Tryd.func24, Tryd.ntmps24
  go_wp2
  go_loopw [8] (fun v8 wr => ∃ (i : Nat) (q : Int), v8 = .int .i64 q ∧ Hid (q = i ∧ i ≤ bl.length) ∧ Hid (V = firstOpen bl (bl.length - i) i) ∧ Hid (Below w.heap.size w wr)) (fun v8 _ => bl.length - (intOf v8).toNat)
  case atStart => exact ⟨0, 0, rfl, Lib.hid ⟨rfl, Nat.zero_le _⟩, Lib.hid hV.symm, Lib.hid (Below.refl _ _)⟩
  case round =>
    clear hV
    obtain ⟨i, q, rfl, hq, hrb, hB⟩ := hrel
    by_cases hlt : i < bl.length
    · have hq0 : 0 ≤ q := by have := hq.out; omega
      have hq1 : q < (bl.length : Int) := by have := hq.out; omega
      have hq3 : q < 1048576 := by omega
      obtain ⟨ad, eA, zx⟩ := Kd.at_bool (Kd.C_below h hB.out) q hq0 hq1
      cases eA
      have hst := firstOpen_step (bl := bl) hlt
      rw [← hq.out.1] at hst
      obtain ⟨xa, hxa⟩ : ∃ x, rdOf false bl q = x := ⟨_, rfl⟩
      rw [hxa] at hst zx
      clear hxa
      cases xa with
      | true =>
        have hE : V = firstOpen bl (bl.length - (i + 1)) (i + 1) := by rw [hrb.out, hst]; rfl
        replace hE := Lib.hid hE
        replace hlt := Lib.hid hlt
        clear hst hrb
        go_wp2
        refine ⟨⟨i + 1, q + 1, rfl, Lib.hid ⟨by have := hq.out; omega, hlt.out⟩, hE, hB⟩, ?_⟩
        simp only [intOf]; have := hq.out; have := hlt.out; omega
      | false =>
        have hE : V = q := by rw [hrb.out, hst]; rfl
        replace hE := Lib.hid hE
        clear hst hrb
        go_wp2
        go_ret
        exact ⟨by rw [hE.out]; rfl, hB.out⟩
    · have hge : ¬ q < (bl.length : Int) := by have := hq.out; omega
      have hE : V = -1 := by rw [hrb.out, show bl.length - i = 0 by have := hq.out; omega]; rfl
      replace hE := Lib.hid hE
      clear hrb
      go_wp2
      go_ret
      exact ⟨by rw [hE.out]; rfl, hB.out⟩
set_option maxHeartbeats 8000000 in
set_option maxRecDepth 1000000 in
theorem start_calls {title : ByteArray} {H W : Int} {A2 : Option Addr} {c2 : Nat} {bl : List Bool} {A3 : Option Addr} {c3 : Nat} {ri : List Bool} {A4 : Option Addr} {c4 : Nat} {be : List Bool} {A5 : Option Addr} {c5 : Nat} {cells : List ByteArray} {A6 : Option Addr} {c6 : Nat} {clues : List ByteArray} {w : World} (hT : Tabs w) (hP : PuzR A2 c2 bl A3 c3 ri A4 c4 be A5 c5 cells A6 c6 clues w) (hz : PuzS title cells clues) :
    Calls Tryd.prog 10 #[.agg #[.string title, .int .i64 H, .int .i64 W, .slice A2 bl.length c2, .slice A3 ri.length c3, .slice A4 be.length c4, .slice A5 cells.length c5, .slice A6 clues.length c6]] w (DoPost w (sstart title H W bl ri be cells clues)) := by
  have hx := box2 w (.cells #[.string title, .int .i64 H, .int .i64 W, .slice A2 bl.length c2, .slice A3 ri.length c3, .slice A4 be.length c4, .slice A5 cells.length c5, .slice A6 clues.length c6] 27) (.cells #[.slice none 0 0, .slice none 0 0, .int .i64 0, .bool false] 38)
  replace hx := Lib.hid hx
  have hu27 := Tryd.underlying27
  have hu24 := Tryd.underlying24
  have hu30 := Tryd.underlying38
  by_cases hp : pcheck title H W bl ri be cells clues = 0
  · have tp : ((0 : Int) != 0) = false := rfl
    have hck := hp
    have hbl : cells.length = bl.length := (pcheck_ok hp).2.1
    obtain ⟨V, hV⟩ : ∃ V, sstart title H W bl ri be cells clues = V := ⟨_, rfl⟩
    have hv : V = if firstOpen bl bl.length 0 < 0 then ([], [], 0, false, 230) else (List.replicate cells.length ⟨#[]⟩, List.replicate cells.length false, firstOpen bl bl.length 0, false, 0) := by rw [← hV]; unfold sstart; rw [if_pos hp]
    rw [hV]
    obtain ⟨l3, hl3⟩ : ∃ l : List ByteArray, l = List.replicate cells.length ⟨#[]⟩ := ⟨_, rfl⟩
    obtain ⟨l7, hl7⟩ : ∃ l : List Bool, l = List.replicate cells.length false := ⟨_, rfl⟩
    rw [← hl3, ← hl7] at hv
    have hfl := firstOpen_lt bl bl.length 0
    obtain ⟨q, hf⟩ : ∃ q, firstOpen bl bl.length 0 = q := ⟨_, rfl⟩
    rw [hf] at hv hfl
    clear hV hp
    replace hf := Lib.hid hf
    replace hck := Lib.hid hck
    replace hl3 := Lib.hid hl3
    replace hl7 := Lib.hid hl7
    by_cases hq : q < 0
    · have tq : decide (q < 0) = true := decide_eq_true hq
      have hE : V = ([], [], 0, false, 230) := by rw [hv, if_pos hq]
      clear hv hq hfl
      replace hE := Lib.hid hE
      replace hbl := Lib.hid hbl
      go_enter Tryd.func10, Tryd.ntmps10
      go_wp2_with (first
        | (go_at_call 23; go_must (refine (page_calls (tabs_below hT hx.out.2.2) (hP.below hx.out.2.2) hz).mono ?_; rintro e w3 ⟨rfl, hb3⟩; rw [hck.out]; have hB3 := Lib.hid (below_step hx.out.2.2 hb3); have bP := Lib.hid (blk_below hx.out.1 hb3); have bT := Lib.hid (blk_below hx.out.2.1 hb3); have p3 := cells8 bP.out; have t3 := cells4 bT.out; have f3 := frozen4 bT.out; have y3 := blk_lt bT.out; clear hb3))
        | (go_at_call 24; go_must (refine (index_calls (by have := hbl.out; have := hz.l; omega) (hP.below hB3.out).r2).mono ?_; rintro e wr ⟨rfl, hb4⟩; rw [hf.out]; have hB := Lib.hid (below_step hB3.out hb4); have bP := Lib.hid (blk_below bP.out hb4); have bT := Lib.hid (blk_below bT.out hb4); have p4 := cells8 bP.out; have t4 := cells4 bT.out; have f4 := frozen4 bT.out; have y4 := blk_lt bT.out; clear hb4 p3 t3 f3 y3))
        | ((with_reducible refine gate_store (t := 38) (p := 2) (v := .tmp 18) rfl ?_); go_must (refine store_event (w1 := put4 wr (w.heap.size + 1) (.slice none 0 0) (.slice none 0 0) (.int .i64 0) (.bool false)) (by rfl) (by rfl) (by rfl) ?hr ?_; (case hr => first | (go_simp; done) | (go_simp; rfl)); intro w5 hw5; have Fw5 := put4_facts bT.out (.slice none 0 0) (.slice none 0 0) (.int .i64 0) (.bool false); rw [← hw5] at Fw5; have hB5 := Lib.hid (Fw5.2.2 _ _ hB.out (by omega)); have bT5 := Lib.hid Fw5.1; clear hw5 Fw5)))
      refine bodyPost_ret (results_ct rfl _ _ (w.heap.size + 1) 38 #[.slice none 0 0, .slice none 0 0, .int .i64 0, .bool false] (0, 0) _ rfl bT5.out Tryd.underlying38 rfl (by kernel_rfl)) rfl ?_
      rw [hE.out]
      exact ⟨_, _, rfl, Kd.R_nil _ _ _ _ _, Kd.R_nil _ _ _ _ _, hB5.out⟩
    · have tq : decide (q < 0) = false := decide_eq_false hq
      have hE : V = (l3, l7, q, false, 0) := by rw [hv, if_neg hq]
      clear hv
      replace hE := Lib.hid hE
      replace hbl := Lib.hid hbl
      go_enter Tryd.func10, Tryd.ntmps10
      go_wp2_with (first
        | (go_at_call 23; go_must (refine (page_calls (tabs_below hT hx.out.2.2) (hP.below hx.out.2.2) hz).mono ?_; rintro e w3 ⟨rfl, hb3⟩; rw [hck.out]; have hB3 := Lib.hid (below_step hx.out.2.2 hb3); have bP := Lib.hid (blk_below hx.out.1 hb3); have bT := Lib.hid (blk_below hx.out.2.1 hb3); have p3 := cells8 bP.out; have t3 := cells4 bT.out; have f3 := frozen4 bT.out; have y3 := blk_lt bT.out; clear hb3))
        | (go_at_call 24; go_must (refine (index_calls (by have := hbl.out; have := hz.l; omega) (hP.below hB3.out).r2).mono ?_; rintro e wr ⟨rfl, hb4⟩; rw [hf.out]; have hB := Lib.hid (below_step hB3.out hb4); have bP := Lib.hid (blk_below bP.out hb4); have bT := Lib.hid (blk_below bT.out hb4); have p4 := cells8 bP.out; have t4 := cells4 bT.out; have f4 := frozen4 bT.out; have y4 := blk_lt bT.out; clear hb4 p3 t3 f3 y3)))
      refine start_ (n := 12) (S := fun w' => w'.cell? ⟨w.heap.size, 6, none⟩ = some (.slice A5 cells.length c5)) (ds := []) #[false, false, false, false, false, false, false, false, false, false, false, false] (by kernel_rfl) rfl rfl ((blk_cell (blk_drew bP.out) 6).trans rfl) (fun hHeld => ?_)
      refine pure_ (i := 0) (N := some 19) (v := ?_) (a' := ?_) #[true, false, false, false, false, false, false, false, false, false, false, false] rfl rfl (by kernel_rfl) (fun _ _ _ h => h) (Or.inl ⟨by rfl, ?_⟩) ?_ ?_
      rotate_left
      · intro w'; go_simp; with_reducible rfl
      rotate_left
      · simp only [Act.put, List.setIfInBounds_toArray, List.set_cons_zero, List.set_cons_succ, i64_w, i32_w]; rfl
      refine pure_ (i := 4) (N := some 23) (v := ?_) (a' := ?_) #[true, false, false, false, true, false, false, false, false, false, false, false] rfl rfl (by kernel_rfl) (fun _ _ _ h => h) (Or.inl ⟨by rfl, ?_⟩) ?_ ?_
      rotate_left
      · intro w'; go_simp; with_reducible rfl
      rotate_left
      · simp only [Act.put, List.setIfInBounds_toArray, List.set_cons_zero, List.set_cons_succ, i64_w, i32_w]; rfl
      refine pure_ (i := 8) (N := some 27) (v := ?_) (a' := ?_) #[true, false, false, false, true, false, false, false, true, false, false, false] rfl rfl (by kernel_rfl) (fun _ _ _ h => h) (Or.inl ⟨by rfl, ?_⟩) ?_ ?_
      rotate_left
      · intro w'; go_simp; with_reducible rfl
      rotate_left
      · simp only [Act.put, List.setIfInBounds_toArray, List.set_cons_zero, List.set_cons_succ, i64_w, i32_w]; rfl
      refine take_ (i := 1) (N := some 20) (v := ?_) (a' := ?_) #[true, true, false, false, true, false, false, false, true, false, false, false] rfl rfl (by kernel_rfl) (fun _ _ _ h => h) (Or.inl ⟨by rfl, ?_⟩) hHeld ?_ ?_
      rotate_left
      · intro w' s0; go_simp; with_reducible rfl
      rotate_left
      · simp only [Act.put, List.setIfInBounds_toArray, List.set_cons_zero, List.set_cons_succ, i64_w, i32_w]; rfl
      refine pure_ (i := 2) (N := some 21) (v := ?_) (a' := ?_) #[true, true, true, false, true, false, false, false, true, false, false, false] rfl rfl (by kernel_rfl) (fun _ _ _ h => h) (Or.inl ⟨by rfl, ?_⟩) ?_ ?_
      rotate_left
      · intro w'; go_simp; with_reducible rfl
      rotate_left
      · simp only [Act.put, List.setIfInBounds_toArray, List.set_cons_zero, List.set_cons_succ, i64_w, i32_w]; rfl
      refine take_ (i := 5) (N := some 24) (v := ?_) (a' := ?_) #[true, true, true, false, true, true, false, false, true, false, false, false] rfl rfl (by kernel_rfl) (fun _ _ _ h => h) (Or.inl ⟨by rfl, ?_⟩) hHeld ?_ ?_
      rotate_left
      · intro w' s0; go_simp; with_reducible rfl
      rotate_left
      · simp only [Act.put, List.setIfInBounds_toArray, List.set_cons_zero, List.set_cons_succ, i64_w, i32_w]; rfl
      refine pure_ (i := 6) (N := some 25) (v := ?_) (a' := ?_) #[true, true, true, false, true, true, true, false, true, false, false, false] rfl rfl (by kernel_rfl) (fun _ _ _ h => h) (Or.inl ⟨by rfl, ?_⟩) ?_ ?_
      rotate_left
      · intro w'; go_simp; with_reducible rfl
      rotate_left
      · simp only [Act.put, List.setIfInBounds_toArray, List.set_cons_zero, List.set_cons_succ, i64_w, i32_w]; rfl
      refine two_ (i := 3) (j := 7) (Ni := some 22) (Nj := some 26) #[true, true, true, true, true, true, true, false, true, false, false, false] #[true, true, true, false, true, true, true, true, true, false, false, false] rfl rfl rfl rfl (by kernel_rfl) (by decide) (by decide) (fun K hK => ?_) (fun K hK => ?_)
      · refine Kd.R_make_step Kd.string _ 9 (by rfl) (N := 22) rfl 25 _ _ rfl (cells.length : Int) rfl rfl Tryd.underlying25 (.string ⟨#[]⟩) 16 str_info rfl (by decide) (by decide) (⟨#[]⟩ : ByteArray) (ok := fun _ => True) (okp := fun _ => True) rfl (fun _ hk => hk) trivial (by omega) (by have := hz.l; omega) (Below.refl _ _) (Nat.le_refl _) ?_
        intro v3 w6 ho3 hb _ _
        rw [Int.toNat_natCast, ← hl3.out] at ho3
        obtain ⟨A39, k39, rfl⟩ := Kd.R_slice ho3
        have R3 := Kd.R_lower ho3 (below_size (below_drew hB.out))
        have bP6 := blk_below (blk_drew bP.out) hb
        have bT6 := blk_below (blk_drew bT.out) hb
        have hB6 := below_step (below_drew hB.out) hb
        clear hb ho3
        refine hK.out _ _ ((blk_cell bP6 6).trans rfl) (fun hHeld => ?_)
        clear hK K
        refine norm_ (a' := ?_) ?_ ?_
        rotate_left
        · show Act.put _ (some 22) _ = _
          simp only [Act.put, List.setIfInBounds_toArray, List.set_cons_zero, List.set_cons_succ, i64_w, i32_w]
          rfl
        refine one_ (i := 7) (N := some 26) #[true, true, true, true, true, true, true, true, true, false, false, false] rfl rfl (by kernel_rfl) (by decide) (fun K hK => ?_)
        refine Kd.R_make_step Kd.bool _ 4 (by rfl) (N := 26) rfl 22 _ _ rfl (cells.length : Int) rfl rfl Tryd.underlying22 (.bool false) 1 bool_info rfl (by decide) (by decide) false (ok := fun _ => True) (okp := fun _ => True) rfl (fun _ hk => hk) trivial (by omega) (by have := hz.l; omega) (Below.refl _ _) (Nat.le_refl _) ?_
        intro v7 w8 ho7 hb _ _
        rw [Int.toNat_natCast, ← hl7.out] at ho7
        obtain ⟨A79, k79, rfl⟩ := Kd.R_slice ho7
        have R7 := Kd.R_lower ho7 (below_size hB6)
        have R38 := Kd.R_below R3 hb
        have R78 := R7
        have bP8 := blk_below bP6 hb
        have bT8 := blk_below bT6 hb
        have hB8 := below_step hB6 hb
        clear hb ho7
        refine hK.out _ _ ((blk_cell bP8 6).trans rfl) (fun hHeld => ?_)
        clear hK K
        refine norm_ (a' := ?_) ?_ ?_
        rotate_left
        · show Act.put _ (some 26) _ = _
          simp only [Act.put, List.setIfInBounds_toArray, List.set_cons_zero, List.set_cons_succ, i64_w, i32_w]
          rfl
        refine pure_ (i := 9) (N := some 28) (v := ?_) (a' := ?_) #[true, true, true, true, true, true, true, true, true, true, false, false] rfl rfl (by kernel_rfl) (fun _ _ _ h => h) (Or.inl ⟨by rfl, ?_⟩) ?_ ?_
        rotate_left
        · intro w'; go_simp; with_reducible rfl
        rotate_left
        · simp only [Act.put, List.setIfInBounds_toArray, List.set_cons_zero, List.set_cons_succ, i64_w, i32_w]; rfl
        refine one_ (i := 10) (N := none) #[true, true, true, true, true, true, true, true, true, true, true, false] rfl rfl (by kernel_rfl) (by decide) (fun K hK => ?_)
        have t8 := cells4 bT8
        have f8 := frozen4 bT8
        have F8 := put4_facts bT8 (.slice A39 l3.length k39) (.slice A79 l7.length k79) (.int .i64 q) (.bool false)
        refine skip_ (w1 := put4 w8 (w.heap.size + 1) (.slice A39 l3.length k39) (.slice A79 l7.length k79) (.int .i64 q) (.bool false)) (by rfl) rfl (by first | (go_simp; done) | (go_simp; rfl)) ?_
        generalize put4 w8 (w.heap.size + 1) (.slice A39 l3.length k39) (.slice A79 l7.length k79) (.int .i64 q) (.bool false) = w9 at F8 ⊢
        have bP9 := (F8.2.1 _ (by omega)).trans bP8
        refine hK.out _ _ ((blk_cell bP9 6).trans rfl) (fun hHeld => ?_)
        clear hK K
        refine pure_ (i := 11) (N := some 3) (v := ?_) (a' := ?_) #[true, true, true, true, true, true, true, true, true, true, true, true] rfl rfl (by kernel_rfl) (fun _ _ _ h => h) (Or.inl ⟨by rfl, ?_⟩) ?_ ?_
        rotate_left
        · intro w'; go_simp; with_reducible rfl
        rotate_left
        · simp only [Act.put, List.setIfInBounds_toArray, List.set_cons_zero, List.set_cons_succ, i64_w, i32_w]; rfl
        refine done_ (by kernel_rfl) ?_
        try go_wp2
        refine bodyPost_ret (results_ct rfl _ _ (w.heap.size + 1) 38 #[.slice A39 l3.length k39, .slice A79 l7.length k79, .int .i64 q, .bool false] (0, 0) _ rfl F8.1 Tryd.underlying38 rfl (by kernel_rfl)) rfl ?_
        rw [hE.out]
        exact ⟨_, _, rfl, R_of_heap R38 bT8 (by decide) F8.2.1, R_of_heap R78 bT8 (by decide) F8.2.1, F8.2.2 _ _ hB8 (by omega)⟩
      · refine Kd.R_make_step Kd.bool _ 4 (by rfl) (N := 26) rfl 22 _ _ rfl (cells.length : Int) rfl rfl Tryd.underlying22 (.bool false) 1 bool_info rfl (by decide) (by decide) false (ok := fun _ => True) (okp := fun _ => True) rfl (fun _ hk => hk) trivial (by omega) (by have := hz.l; omega) (Below.refl _ _) (Nat.le_refl _) ?_
        intro v7 w6 ho7 hb _ _
        rw [Int.toNat_natCast, ← hl7.out] at ho7
        obtain ⟨A79, k79, rfl⟩ := Kd.R_slice ho7
        have R7 := Kd.R_lower ho7 (below_size (below_drew hB.out))
        have bP6 := blk_below (blk_drew bP.out) hb
        have bT6 := blk_below (blk_drew bT.out) hb
        have hB6 := below_step (below_drew hB.out) hb
        clear hb ho7
        refine hK.out _ _ ((blk_cell bP6 6).trans rfl) (fun hHeld => ?_)
        clear hK K
        refine norm_ (a' := ?_) ?_ ?_
        rotate_left
        · show Act.put _ (some 26) _ = _
          simp only [Act.put, List.setIfInBounds_toArray, List.set_cons_zero, List.set_cons_succ, i64_w, i32_w]
          rfl
        refine one_ (i := 3) (N := some 22) #[true, true, true, true, true, true, true, true, true, false, false, false] rfl rfl (by kernel_rfl) (by decide) (fun K hK => ?_)
        refine Kd.R_make_step Kd.string _ 9 (by rfl) (N := 22) rfl 25 _ _ rfl (cells.length : Int) rfl rfl Tryd.underlying25 (.string ⟨#[]⟩) 16 str_info rfl (by decide) (by decide) (⟨#[]⟩ : ByteArray) (ok := fun _ => True) (okp := fun _ => True) rfl (fun _ hk => hk) trivial (by omega) (by have := hz.l; omega) (Below.refl _ _) (Nat.le_refl _) ?_
        intro v3 w8 ho3 hb _ _
        rw [Int.toNat_natCast, ← hl3.out] at ho3
        obtain ⟨A39, k39, rfl⟩ := Kd.R_slice ho3
        have R3 := Kd.R_lower ho3 (below_size hB6)
        have R78 := Kd.R_below R7 hb
        have R38 := R3
        have bP8 := blk_below bP6 hb
        have bT8 := blk_below bT6 hb
        have hB8 := below_step hB6 hb
        clear hb ho3
        refine hK.out _ _ ((blk_cell bP8 6).trans rfl) (fun hHeld => ?_)
        clear hK K
        refine norm_ (a' := ?_) ?_ ?_
        rotate_left
        · show Act.put _ (some 22) _ = _
          simp only [Act.put, List.setIfInBounds_toArray, List.set_cons_zero, List.set_cons_succ, i64_w, i32_w]
          rfl
        refine pure_ (i := 9) (N := some 28) (v := ?_) (a' := ?_) #[true, true, true, true, true, true, true, true, true, true, false, false] rfl rfl (by kernel_rfl) (fun _ _ _ h => h) (Or.inl ⟨by rfl, ?_⟩) ?_ ?_
        rotate_left
        · intro w'; go_simp; with_reducible rfl
        rotate_left
        · simp only [Act.put, List.setIfInBounds_toArray, List.set_cons_zero, List.set_cons_succ, i64_w, i32_w]; rfl
        refine one_ (i := 10) (N := none) #[true, true, true, true, true, true, true, true, true, true, true, false] rfl rfl (by kernel_rfl) (by decide) (fun K hK => ?_)
        have t8 := cells4 bT8
        have f8 := frozen4 bT8
        have F8 := put4_facts bT8 (.slice A39 l3.length k39) (.slice A79 l7.length k79) (.int .i64 q) (.bool false)
        refine skip_ (w1 := put4 w8 (w.heap.size + 1) (.slice A39 l3.length k39) (.slice A79 l7.length k79) (.int .i64 q) (.bool false)) (by rfl) rfl (by first | (go_simp; done) | (go_simp; rfl)) ?_
        generalize put4 w8 (w.heap.size + 1) (.slice A39 l3.length k39) (.slice A79 l7.length k79) (.int .i64 q) (.bool false) = w9 at F8 ⊢
        have bP9 := (F8.2.1 _ (by omega)).trans bP8
        refine hK.out _ _ ((blk_cell bP9 6).trans rfl) (fun hHeld => ?_)
        clear hK K
        refine pure_ (i := 11) (N := some 3) (v := ?_) (a' := ?_) #[true, true, true, true, true, true, true, true, true, true, true, true] rfl rfl (by kernel_rfl) (fun _ _ _ h => h) (Or.inl ⟨by rfl, ?_⟩) ?_ ?_
        rotate_left
        · intro w'; go_simp; with_reducible rfl
        rotate_left
        · simp only [Act.put, List.setIfInBounds_toArray, List.set_cons_zero, List.set_cons_succ, i64_w, i32_w]; rfl
        refine done_ (by kernel_rfl) ?_
        try go_wp2
        refine bodyPost_ret (results_ct rfl _ _ (w.heap.size + 1) 38 #[.slice A39 l3.length k39, .slice A79 l7.length k79, .int .i64 q, .bool false] (0, 0) _ rfl F8.1 Tryd.underlying38 rfl (by kernel_rfl)) rfl ?_
        rw [hE.out]
        exact ⟨_, _, rfl, R_of_heap R38 bT8 (by decide) F8.2.1, R_of_heap R78 bT8 (by decide) F8.2.1, F8.2.2 _ _ hB8 (by omega)⟩
  · have tp : (pcheck title H W bl ri be cells clues != 0) = true := bne_iff_ne.2 hp
    have hv : sstart title H W bl ri be cells clues = ([], [], 0, false, pcheck title H W bl ri be cells clues) := by unfold sstart; rw [if_neg hp]
    rw [hv]
    clear hv hp
    obtain ⟨pe, hpe⟩ : ∃ x, pcheck title H W bl ri be cells clues = x := ⟨_, rfl⟩
    rw [hpe] at tp ⊢
    have hck := Lib.hid hpe
    go_enter Tryd.func10, Tryd.ntmps10
    go_wp2_with (first
      | (go_at_call 23; go_must (refine (page_calls (tabs_below hT hx.out.2.2) (hP.below hx.out.2.2) hz).mono ?_; rintro e w3 ⟨rfl, hb3⟩; rw [hck.out]; have hB3 := Lib.hid (below_step hx.out.2.2 hb3); have bP := Lib.hid (blk_below hx.out.1 hb3); have bT := Lib.hid (blk_below hx.out.2.1 hb3); have p3 := cells8 bP.out; have t3 := cells4 bT.out; have f3 := frozen4 bT.out; have y3 := blk_lt bT.out; clear hb3))
      | ((with_reducible refine gate_store (t := 38) (p := 2) (v := .tmp 10) rfl ?_); go_must (refine store_event (w1 := put4 w3 (w.heap.size + 1) (.slice none 0 0) (.slice none 0 0) (.int .i64 0) (.bool false)) (by rfl) (by rfl) (by rfl) ?hr ?_; (case hr => first | (go_simp; done) | (go_simp; rfl)); intro w5 hw5; have Fw5 := put4_facts bT.out (.slice none 0 0) (.slice none 0 0) (.int .i64 0) (.bool false); rw [← hw5] at Fw5; have hB5 := Lib.hid (Fw5.2.2 _ _ hB3.out (by omega)); have bT5 := Lib.hid Fw5.1; clear hw5 Fw5)))
    refine bodyPost_ret (results_ct rfl _ _ (w.heap.size + 1) 38 #[.slice none 0 0, .slice none 0 0, .int .i64 0, .bool false] (0, 0) _ rfl bT5.out Tryd.underlying38 rfl (by kernel_rfl)) rfl ?_
    exact ⟨_, _, rfl, Kd.R_nil _ _ _ _ _, Kd.R_nil _ _ _ _ _, hB5.out⟩
end Go.Proofs.YtplhkfppjemjmaaDoor.Q
end
section
namespace Go.Proofs.YtplhkfppjemjmaaDoor.Q
open Go.RowKit Go.Proofs.YtplhkfppjemjmaaDoorW.PrintWords Go.Proofs.YtplhkfppjemjmaaDoorW.PrintLast Go.Proofs.YtplhkfppjemjmaaDoorW.PrintMore
attribute [local go_sem] max2_int min2_int max_two min_two max_three min_three max_four min_four
set_option linter.unusedVariables false
set_option linter.unusedSimpArgs false
theorem eqA36 (d : Nat) (w : World) (x0 y0 : Int) (x1 y1 : Int) (x2 y2 : ByteArray) :
  (Op.equalIn (d + 2) 36 (.agg #[.int .i64 x0, .int .i64 x1, .string x2]) (.agg #[.int .i64 y0, .int .i64 y1, .string y2])).run Tryd.prog w = .ok (x0 == y0 && (x1 == y1 && (x2.toList == y2.toList))) w := by
 refine eqA_of Tryd.underlying36 (by kernel_rfl) ?_
 refine eqf_cons (by rfl) (by go_simp; rfl) (by go_simp; rfl) (by go_simp) ?_
 refine eqf_cons (by rfl) (by go_simp; rfl) (by go_simp; rfl) (by go_simp) ?_
 exact eqf_last (by rfl) (by go_simp; rfl) (by go_simp; rfl) (by go_simp)
end Go.Proofs.YtplhkfppjemjmaaDoor.Q
end
