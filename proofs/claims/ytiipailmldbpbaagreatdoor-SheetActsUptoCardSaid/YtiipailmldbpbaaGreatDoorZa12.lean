/- PART 12 OF A PROOF: Lean functions, and that the program computes them; written by hand and by a program. Not trusted: Lean checks it. -/
import Derived.Deep.DeepHandedRow
import Derived.Deep.DeepWitnessRowRef
import Derived.Deep.Grids
import Derived.Lib.LaidIn
import Derived.Lib.LaidU8T
import Derived.Lib.SmallJoins
import Derived.ProofKit
import Derived.SliceStrings
import Derived.Test.YtiipailmldbpbaaGreatDoorRows
import Derived.Test.YtiipailmldbpbaaGreatDoorZa3
import Derived.Test.YtiipailmldbpbaaGreatDoorZa11
set_option linter.unusedVariables false
set_option linter.unusedSimpArgs false
section
namespace Go.Proofs.YtiipailmldbpbaaGreatDoor.Q
open Go.RowKit Go.Proofs.YtiipailmldbpbaaGreatDoorW.PrintWords Go.Proofs.YtiipailmldbpbaaGreatDoorW.PrintLast Go.Proofs.YtiipailmldbpbaaGreatDoorW.PrintMore
open Go.ChangeShapes Go.WideShapes Go.ChangeAt Go.Joins
set_option linter.unusedVariables false
open Go.Proofs.YtiipailmldbpbaaGreatDoorS
theorem bulk_pos {H : Type} (d : DataW H) : 1 ≤ Rows.uptoBulk d := by
  cases d with
  | lit l => cases l <;> simp [Rows.uptoBulk]
  | _ => simp [Rows.uptoBulk]
theorem bulk_part {H : Type} {d : DataW H} {l : List (DataW H)} (h : d ∈ l) : Rows.uptoBulk d ≤ Rows.uptoBulkAll l := by
  induction l with
  | nil => cases h
  | cons x r ih =>
    simp only [Rows.uptoBulkAll]
    rcases List.mem_cons.1 h with rfl | e
    · omega
    · have := ih e; omega
theorem bulk_length {H : Type} (l : List (DataW H)) : l.length ≤ Rows.uptoBulkAll l := by
  induction l with
  | nil => simp [Rows.uptoBulkAll]
  | cons x r ih => have := bulk_pos x; simp only [Rows.uptoBulkAll, List.length_cons]; omega
theorem bulk_bound {H : Type} {l : List (DataW H)} (hk : Rows.uptoSmall H l = true) : Rows.uptoBulkAll l ≤ 1048576 := of_decide_eq_true hk
theorem C_cells {α : Type} {enc : α → Value} {h1 : ∀ x, (enc x).oneCell' = true} {w : World} {a : Addr} {l : List α} (hl : l.length ≤ 9223372036854775807) (hc : ∀ i (h : i < l.length), w.cell? (a.add i) = some (enc l[i])) : (Kd.scalar enc h1).C w (some a) l.length l :=
  ⟨rfl, hl, fun _ => ⟨a, rfl, fun j p hj => ⟨[enc p], rfl, rfl, fun i u hu => by
    cases i with
    | zero =>
      obtain ⟨h, e⟩ := List.getElem?_eq_some_iff.1 hj
      subst e
      simp only [List.getElem?_cons_zero, Option.some.injEq] at hu
      subst hu
      have e1 : j * (Kd.scalar enc h1).sz + 0 = j := by show j * 1 + 0 = j; omega
      rw [e1]
      exact hc j h
    | succ i => simp at hu⟩⟩⟩
theorem C_none {α : Type} {enc : α → Value} {h1 : ∀ x, (enc x).oneCell' = true} {w : World} : (Kd.scalar enc h1).C w none 0 [] := ⟨rfl, by omega, fun h => absurd h (by omega)⟩
section
variable {H : Type} {enc : TypeId × Value → H} {P : Program} {w : World}
theorem open_strs_f {t e n : Nat} {cs : List Value} {x : DataW H × List MemPlace} (ht : P.underlying t = some (.slice e)) (he : P.underlying e = some .string) (hc : P.cellsOf e = 1) (h : DataW.trod enc P w 0 (fun _ => true) true n t cs = some x) :
    ∃ A c l, cs = [.slice A l.length c] ∧ Kd.C Kd.string w A l.length l ∧ l.length ≤ c ∧ l.length ≤ Rows.uptoBulk x.1 ∧ ∀ s ∈ l, s.size ≤ Rows.uptoBulk x.1 := by
  rcases open_strings ht he hc h with ⟨rfl, rfl⟩ | ⟨a, len, cap, ss, rfl, _, hl, hm, hz, rfl, hcell, _⟩
  · exact ⟨none, 0, [], rfl, C_none, Nat.le_refl _, Nat.zero_le _, fun s hs => by cases hs⟩
  · simp only [if_true] at hz
    have hlen : (ss.take len).length = len := by rw [List.length_take]; omega
    have hb : Rows.uptoBulkAll (strs (H := H) (ss.take len)) + 1 ≤ Rows.uptoBulk (DataW.slice (strs (H := H) (ss.take len)) (strs (ss.drop len))) := by simp only [Rows.uptoBulk]; omega
    refine ⟨some a, cap, ss.take len, by rw [hlen], C_cells (by unfold maxLen at hm; omega) (fun i hi => ?_), by omega, ?_, fun s hs => ?_⟩
    · rw [hcell i (by omega), List.getElem_take, List.getD_eq_getElem?_getD, List.getElem?_eq_getElem (by omega)]; rfl
    · have := bulk_length (strs (H := H) (ss.take len))
      simp only [strs, List.length_map] at this
      show _ ≤ Rows.uptoBulk (DataW.slice (strs (H := H) (ss.take len)) (strs (ss.drop len)))
      simp only [strs] at hb ⊢
      omega
    · have := bulk_part (H := H) (d := .lit (.string s.data.toList)) (l := strs (ss.take len)) (List.mem_map.2 ⟨s, hs, rfl⟩)
      have e1 : Rows.uptoBulk (DataW.lit (H := H) (.string s.data.toList)) = s.size + 1 := by simp [Rows.uptoBulk]
      show _ ≤ Rows.uptoBulk (DataW.slice (strs (H := H) (ss.take len)) (strs (ss.drop len)))
      omega
theorem bools_bulk {a : Addr} {len cap n : Nat} {B : Nat → Bool} (h : n = len) : n ≤ Rows.uptoBulk (Go.Deep.boolRow (H := H) (some a) len cap B) := by
  subst h
  unfold Go.Deep.boolRow
  simp only [Rows.uptoBulk]
  have := bulk_length (H := H) ((List.range n).map fun i => .lit (.bool (B i)))
  simp only [List.length_map, List.length_range] at this
  omega
theorem open_bools_f {t e n : Nat} {cs : List Value} {x : DataW H × List MemPlace} (ht : P.underlying t = some (.slice e)) (he : P.underlying e = some .bool) (hc : P.cellsOf e = 1) (h : DataW.trod enc P w 0 (fun _ => true) true n t cs = some x) :
    ∃ A c l, cs = [.slice A l.length c] ∧ Kd.C Kd.bool w A l.length l ∧ l.length ≤ c ∧ l.length ≤ Rows.uptoBulk x.1 := by
  rcases Go.Deep.open_bools ht he hc h with ⟨rfl, rfl⟩ | ⟨a, len, cap, B, rfl, _, hl, hm, rfl, hcell⟩
  · exact ⟨none, 0, [], rfl, C_none, Nat.le_refl _, Nat.zero_le _⟩
  · have hlen : ((List.range len).map B).length = len := by simp
    refine ⟨some a, cap, (List.range len).map B, by rw [hlen], C_cells (by unfold maxLen at hm; omega) (fun i hi => ?_), by omega, bools_bulk (a := a) hlen⟩
    rw [hcell i (by omega)]
    simp
theorem trod_struct5 {t : TypeId} {f0 f1 f2 f3 f4 : Field} {fuel : Nat} {cs : List Value} {x : DataW H × List MemPlace} (ht : P.underlying t = some (.struct #[f0, f1, f2, f3, f4])) (h : DataW.trod enc P w 0 (fun _ => true) true fuel t cs = some x) :
    ∃ y0 y1 y2 y3 y4 n, x.1 = .agg [y0.1, y1.1, y2.1, y3.1, y4.1] ∧ cs.length = P.cellsOf t ∧ DataW.trod enc P w 0 (fun _ => true) true n f0.type ((cs.drop f0.offset).take (P.cellsOf f0.type)) = some y0 ∧
      DataW.trod enc P w 0 (fun _ => true) true n f1.type ((cs.drop f1.offset).take (P.cellsOf f1.type)) = some y1 ∧ DataW.trod enc P w 0 (fun _ => true) true n f2.type ((cs.drop f2.offset).take (P.cellsOf f2.type)) = some y2 ∧
      DataW.trod enc P w 0 (fun _ => true) true n f3.type ((cs.drop f3.offset).take (P.cellsOf f3.type)) = some y3 ∧ DataW.trod enc P w 0 (fun _ => true) true n f4.type ((cs.drop f4.offset).take (P.cellsOf f4.type)) = some y4 := by
  obtain ⟨xs, n, _, rfl, hl, hlen, hf⟩ := DataW.trod_struct ht h
  match xs, hlen with
  | [y0, y1, y2, y3, y4], _ => exact ⟨y0, y1, y2, y3, y4, n, rfl, hl, by simpa using hf 0 f0 rfl, by simpa using hf 1 f1 rfl, by simpa using hf 2 f2 rfl, by simpa using hf 3 f3 rfl, by simpa using hf 4 f4 rfl⟩
end
theorem bulk_agg {H : Type} {d : DataW H} {l : List (DataW H)} (h : d ∈ l) : Rows.uptoBulk d ≤ Rows.uptoBulk (.agg l) := by
  have := bulk_part h
  simp only [Rows.uptoBulk]
  omega
set_option maxRecDepth 100000 in
theorem open_puzzle {H : Type} {enc : TypeId × Value → H} {w : World} {b : Nat} {v : Value} {d : DataW H} {p : List MemPlace} (hv : Value.okWide Tryz.prog w .any b 27 v) (h : DataW.Trod enc Tryz.prog w 0 (fun _ => true) true 27 v d p) :
    ∃ (title : ByteArray) (Hh Ww : Int) (A2 : Option Addr) (c2 : Nat) (bl : List Bool) (A3 : Option Addr) (c3 : Nat) (ri : List Bool) (A4 : Option Addr) (c4 : Nat) (be : List Bool) (A5 : Option Addr) (c5 : Nat) (cells : List ByteArray) (A6 : Option Addr) (c6 : Nat) (clues : List ByteArray),
      v = .agg #[.string title, .int .i64 Hh, .int .i64 Ww, .slice A2 bl.length c2, .slice A3 ri.length c3, .slice A4 be.length c4, .slice A5 cells.length c5, .slice A6 clues.length c6] ∧
      PuzR A2 c2 bl A3 c3 ri A4 c4 be A5 c5 cells A6 c6 clues w ∧ (Rows.uptoBulk d ≤ 1048576 → PuzS title cells clues ∧ bl.length ≤ 1048576 ∧ ri.length ≤ 1048576 ∧ be.length ≤ 1048576) := by
  obtain ⟨cs, rfl, hsz⟩ := okWide_struct Tryz.underlying27 hv
  obtain ⟨fuel, hf⟩ := h
  obtain ⟨y0, y1, y2, y3, n, hx, hl, g0, g1, g2, g3⟩ := trod_struct4 Tryz.underlying27 hf
  obtain ⟨z0, z1, z2, z3, z4, m, hz, hzl, k0, k1, k2, k3, k4⟩ := trod_struct5 Tryz.underlying24 g1
  have c27 : Tryz.prog.cellsOf 27 = 8 := by kernel_rfl
  have c24 : Tryz.prog.cellsOf 24 = 5 := by kernel_rfl
  have c25 : Tryz.prog.cellsOf 25 = 1 := by kernel_rfl
  have c22 : Tryz.prog.cellsOf 22 = 1 := by kernel_rfl
  have c9 : Tryz.prog.cellsOf 9 = 1 := by kernel_rfl
  have c4' : Tryz.prog.cellsOf 4 = 1 := by kernel_rfl
  have c3' : Tryz.prog.cellsOf 3 = 1 := by kernel_rfl
  obtain ⟨l⟩ := cs
  rw [c27] at hsz
  match l, hsz with
  | [e0, e1, e2, e3, e4, e5, e6, e7], _ =>
  simp only [Value.cells, c24, c25, c22, c9, c3', List.drop_succ_cons, List.drop_zero, List.take_succ_cons, List.take_zero] at g0 g1 g2 g3 k0 k1 k2 k3 k4
  obtain ⟨title, r0, r1, _⟩ := DataW.trod_string Tryz.underlying9 g0
  obtain ⟨Hh, r2, r3, _⟩ := DataW.trod_int Tryz.underlying3 k0
  obtain ⟨Ww, r4, r5, _⟩ := DataW.trod_int Tryz.underlying3 k1
  obtain ⟨A2, c2, bl, s2, t2, u2, v2⟩ := open_bools_f Tryz.underlying22 Tryz.underlying4 c4' k2
  obtain ⟨A3, c3, ri, s3, t3, u3, v3⟩ := open_bools_f Tryz.underlying22 Tryz.underlying4 c4' k3
  obtain ⟨A4, c4, be, s4, t4, u4, v4⟩ := open_bools_f Tryz.underlying22 Tryz.underlying4 c4' k4
  obtain ⟨A5, c5, cells, s5, t5, u5, v5, w5⟩ := open_strs_f Tryz.underlying25 Tryz.underlying9 c9 g2
  obtain ⟨A6, c6, clues, s6, t6, u6, v6, w6⟩ := open_strs_f Tryz.underlying25 Tryz.underlying9 c9 g3
  simp only [List.cons.injEq, and_true] at r0 r2 r4 s2 s3 s4 s5 s6
  subst r0 r2 r4 s2 s3 s4 s5 s6
  refine ⟨title, Hh, Ww, A2, c2, bl, A3, c3, ri, A4, c4, be, A5, c5, cells, A6, c6, clues, rfl, ⟨t2, u2, t3, u3, t4, u4, t5, u5, t6, u6⟩, fun hd => ?_⟩
  have hx1 : d = .agg [y0.1, y1.1, y2.1, y3.1] := congrArg Prod.fst hx
  rw [hx1] at hd
  have q0 := bulk_agg (H := H) (d := y0.1) (l := [y0.1, y1.1, y2.1, y3.1]) (by simp)
  have q2 := bulk_agg (H := H) (d := y2.1) (l := [y0.1, y1.1, y2.1, y3.1]) (by simp)
  have q3 := bulk_agg (H := H) (d := y3.1) (l := [y0.1, y1.1, y2.1, y3.1]) (by simp)
  have e0 : Rows.uptoBulk y0.1 = title.size + 1 := by rw [r1]; simp [Rows.uptoBulk]
  have q1 := bulk_agg (H := H) (d := y1.1) (l := [y0.1, y1.1, y2.1, y3.1]) (by simp)
  have e1 : Rows.uptoBulk y1.1 = Rows.uptoBulk (DataW.agg [z0.1, z1.1, z2.1, z3.1, z4.1]) := by rw [hz]
  have k2' := bulk_agg (H := H) (d := z2.1) (l := [z0.1, z1.1, z2.1, z3.1, z4.1]) (by simp)
  have k3' := bulk_agg (H := H) (d := z3.1) (l := [z0.1, z1.1, z2.1, z3.1, z4.1]) (by simp)
  have k4' := bulk_agg (H := H) (d := z4.1) (l := [z0.1, z1.1, z2.1, z3.1, z4.1]) (by simp)
  exact ⟨⟨by omega, fun s hs => by have := w5 s hs; omega, fun s hs => by have := w6 s hs; omega, by omega, by omega⟩, by omega, by omega, by omega⟩
set_option maxRecDepth 100000 in
theorem open_sheet {H : Type} {enc : TypeId × Value → H} {w : World} {b : Nat} {v : Value} {d : DataW H} {p : List MemPlace} (hv : Value.okWide Tryz.prog w .any b 29 v) (h : DataW.Trod enc Tryz.prog w 0 (fun _ => true) true 29 v d p) :
    ∃ (A7 : Option Addr) (c7 : Nat) (sc : List ByteArray) (A8 : Option Addr) (c8 : Nat) (ss : List Bool) (at_ : Int) (dn : Bool), v = .agg #[.slice A7 sc.length c7, .slice A8 ss.length c8, .int .i64 at_, .bool dn] ∧ ShtR A7 c7 sc A8 c8 ss w ∧ (Lit.int .i64 at_).wf = true ∧ (Rows.uptoBulk d ≤ 1048576 → Small sc ∧ sc.length ≤ 1048576 ∧ ss.length ≤ 1048576) := by
  obtain ⟨v0, v1, v2, v3, y0, y1, y2, y3, n, rfl, rfl, rfl, g0, g1, g2, g3⟩ := open_agg4 Tryz.underlying29 (by kernel_rfl) (by kernel_rfl) hv h
  obtain ⟨A7, c7, sc, s7, t7, u7, v7, w7⟩ := open_strs_f Tryz.underlying25 Tryz.underlying9 (by kernel_rfl) g0
  obtain ⟨A8, c8, ss, s8, t8, u8, v8⟩ := open_bools_f Tryz.underlying22 Tryz.underlying4 (by kernel_rfl) g1
  obtain ⟨at_, r2, r3, hw⟩ := DataW.trod_int Tryz.underlying3 g2
  obtain ⟨dn, r4, r5⟩ := DataW.trod_bool Tryz.underlying4 g3
  simp only [List.cons.injEq, and_true] at s7 s8 r2 r4
  subst s7 s8 r2 r4
  refine ⟨A7, c7, sc, A8, c8, ss, at_, dn, rfl, ⟨t7, u7, t8, u8⟩, hw, fun hd => ?_⟩
  have q0 := bulk_agg (H := H) (d := y0.1) (l := [y0.1, y1.1, y2.1, y3.1]) (by simp)
  have q1 := bulk_agg (H := H) (d := y1.1) (l := [y0.1, y1.1, y2.1, y3.1]) (by simp)
  exact ⟨fun s hs => by have := w7 s hs; omega, by omega, by omega⟩
set_option maxRecDepth 100000 in
theorem open_act {H : Type} {enc : TypeId × Value → H} {w : World} {b : Nat} {v : Value} {d : DataW H} {p : List MemPlace} (hv : Value.okWide Tryz.prog w .any b 31 v) (h : DataW.Trod enc Tryz.prog w 0 (fun _ => true) true 31 v d p) :
    ∃ (kind cell : Int) (text : ByteArray), v = .agg #[.int .i64 kind, .int .i64 cell, .string text] ∧ (Lit.int .i64 kind).wf = true ∧ (Lit.int .i64 cell).wf = true ∧ (Rows.uptoBulk d ≤ 1048576 → text.size ≤ 1048576) := by
  obtain ⟨v0, v1, v2, y0, y1, y2, n, rfl, rfl, rfl, g0, g1, g2⟩ := open_agg3 Tryz.underlying31 (by kernel_rfl) (by kernel_rfl) hv h
  obtain ⟨kind, r0, r1, hk⟩ := DataW.trod_int Tryz.underlying3 g0
  obtain ⟨cell, r2, r3, hc⟩ := DataW.trod_int Tryz.underlying3 g1
  obtain ⟨text, r4, r5, _⟩ := DataW.trod_string Tryz.underlying9 g2
  simp only [List.cons.injEq, and_true] at r0 r2 r4
  subst r0 r2 r4
  refine ⟨kind, cell, text, rfl, hk, hc, fun hd => ?_⟩
  have q2 := bulk_agg (H := H) (d := y2.1) (l := [y0.1, y1.1, y2.1]) (by simp)
  have e2 : Rows.uptoBulk y2.1 = text.size + 1 := by rw [r5]; simp [Rows.uptoBulk]
  omega
def u8ren : Go.Shelf.Ren := ⟨fun n => n, fun | 119 => 133 | 138 => 135 | 139 => 136 | _ => 5, fun | 3 => 0 | _ => 1⟩
theorem u8types : U8Types Tryz.prog u8ren := ⟨by kernel_rfl, by kernel_rfl, by kernel_rfl, by kernel_rfl⟩
theorem accept_eq : (Rows.laid_unicode_utf8_acceptRanges : DataW Unit) = Lib.acceptData := by kernel_rfl
theorem first_eq : Rows.laid_unicode_utf8_first = Lib.firstData := by kernel_rfl
theorem tabs_of_laid {w : World} (h : laidMetH Tryz.prog [("unicode/utf8.acceptRanges", Rows.laid_unicode_utf8_acceptRanges), ("unicode/utf8.first", Rows.laid_unicode_utf8_first)] w) : Tabs w := by
  have h' : laidMet Tryz.prog [("unicode/utf8.acceptRanges", Lib.acceptData), ("unicode/utf8.first", Lib.firstData)] w := by rw [← accept_eq, ← first_eq]; exact h
  exact utf8Tabs_of_readsT u8types ⟨by kernel_rfl, by kernel_rfl, by kernel_rfl, by kernel_rfl, by kernel_rfl, by kernel_rfl, by kernel_rfl⟩ (Lib.laidMet.reads h' (.tail _ (.head _))) (Lib.laidMet.reads h' (.head _))
def putTab (h : Array Obj) (g : Nat) (cs : Array Value) : Array Obj := h.modify g fun
  | .cells _ t frozen => .cells cs t frozen
  | o => o
noncomputable def laidWorld (os : Os) : World :=
  { World.holding Tryz.prog os ⟨#[], #[], []⟩ with heap := putTab (putTab (World.holding Tryz.prog os ⟨#[], #[], []⟩).heap 0 (Lib.firstTab.map fun z => Value.int .u8 z).toArray) 1 ((List.range 16).flatMap fun i => [Value.int .u8 (Lib.accLo i), Value.int .u8 (Lib.accHi i)]).toArray }
theorem own_knob : ownKnob Tryz.prog.godebug = none := by kernel_rfl
theorem laid_out : laidOutB Tryz.prog = true := by kernel_rfl
section
variable {H : Type} {enc : TypeId × Value → H} {P : Program}
theorem post_of_below {f : Func} {s : ChangeSpec} {apart fresh handsOn again : Bool} {W W' : World} {args : Array Value} {v : Value} {ds gs : List (DataW H)} {before pa pv : List MemPlace}
    (hW : DataW.Whole enc P f.params.toList s.vars apart W args.toList ds gs before)
    (hres : ∀ (b : Nat) (sp : Nat → Bool) (hd : Bool), DataW.TrodAll enc P W' b sp hd f.resultTypes.toList (v.resultList f.resultTypes.size) (s.fn H (ds ++ gs)).results [])
    (hargs : ∀ sp : Nat → Bool, (∀ p ∈ before, sp p.block = true) → DataW.TrodAll enc P W' 0 sp true f.params.toList args.toList (s.fn H (ds ++ gs)).args pa)
    (hvars : ∀ sp : Nat → Bool, (∀ p ∈ before, sp p.block = true) → DataW.TrodVars enc P W' sp s.vars (s.fn H (ds ++ gs)).vars pv)
    (hps : before = pa ++ pv) (hb : Below W.heap.size W W')
    (hok : ∀ (j : Nat) (t : TypeId) (r : Value), f.resultTypes[j]? = some t → (v.resultList f.resultTypes.size)[j]? = some r → Value.okWide P W' .any 0 t r) :
    s.post enc P f apart fresh handsOn again W args v W' := by
  have hlt : ∀ p ∈ before, p.block < W.heap.size := fun p hp => hW.lt p hp
  have hold : ∀ p ∈ before, (fun b => decide (b < W.heap.size)) p.block = true := fun p hp => by simpa using hlt p hp
  refine ⟨ds, gs, before, [], pa, pv, hW, hres _ _ _, hargs _ hold, hvars _ hold, World.keptBut_mono (fun p hp => ⟨hp, ?_⟩) (hb.frame (· ∈ before)), fun _ => ?_⟩
  · rw [hps, List.mem_append] at hp
    exact Or.inr hp
  · obtain ⟨_, _, _, _, _, hz, hn⟩ := hW
    refine ⟨hok, _, _, ([] ++ pa) ++ pv, ⟨[] ++ pa, pv, trodAll_append (hargs _ (fun _ _ => rfl)) (hres _ _ _), hvars _ (fun _ _ => rfl), rfl, ?_, ?_⟩, ?_⟩
    · intro b off hp
      have hin : MemPlace.cell b off ∈ before := by rw [hps]; simpa using hp
      rw [hb.frozen (hlt _ hin)]
      exact hz b off hin
    · intro ha
      have := hn ha
      rw [hps] at this
      simpa using this
    · intro p hp _
      rw [hps]
      simpa using hp
end
end Go.Proofs.YtiipailmldbpbaaGreatDoor.Q
end
section
namespace Go.Proofs.YtiipailmldbpbaaGreatDoor.Q
open Go.RowKit Go.Proofs.YtiipailmldbpbaaGreatDoorW.PrintWords Go.Proofs.YtiipailmldbpbaaGreatDoorW.PrintLast Go.Proofs.YtiipailmldbpbaaGreatDoorW.PrintMore
attribute [local go_sem] max2_int min2_int max_two min_two max_three min_three max_four min_four
set_option linter.unusedVariables false
set_option linter.unusedSimpArgs false
mutual
def rebusref01_row.j0 : Nat → Int → Bool → Option (Int × Int × Int)
 | 0, _, _ => none
 | k + 1, x0, x8 => if x8 = true then (some (2, 128, 191)) else (if x0 = 224 then (some (3, 160, 191)) else (if x0 = 237 then (some (3, 128, 159)) else (if x0 ≥ 225 then (rebusref01_row.j1 k x0 (decide (x0 ≤ 239))) else (rebusref01_row.j1 k x0 false))))
def rebusref01_row.j1 : Nat → Int → Bool → Option (Int × Int × Int)
 | 0, _, _ => none
 | k + 1, x0, x21 => if x21 = true then (some (3, 128, 191)) else (if x0 = 240 then (some (4, 144, 191)) else (if x0 ≥ 241 then (rebusref01_row.j2 k x0 (decide (x0 ≤ 243))) else (rebusref01_row.j2 k x0 false)))
def rebusref01_row.j2 : Nat → Int → Bool → Option (Int × Int × Int)
 | 0, _, _ => none
 | k + 1, x0, x31 => if x31 = true then (some (4, 128, 191)) else (if x0 = 244 then (some (4, 128, 143)) else (some (0, 0, 0)))
end
def rebusref01_row.f (k : Nat) (a0 : Int) : Option (Int × Int × Int) := if a0 < 128 then (some (1, 0, 0)) else (if a0 ≥ 194 then (rebusref01_row.j0 k a0 (decide (a0 ≤ 223))) else (rebusref01_row.j0 k a0 false))
set_option maxHeartbeats 8000000 in
set_option maxRecDepth 100000 in
theorem rebusref01_row.calls (k : Nat) (a0 : Int) (r1 : Int) (r2 : Int) (r3 : Int) (w : World) (h : rebusref01_row.f k a0 = some (r1, r2, r3)) :
  Calls Tryz.prog 78 #[.int .u8 a0] w fun e w' => e = .returned (.tuple #[.int .i64 r1, .int .u8 r2, .int .u8 r3]) ∧ Drawn0 w w' := by
 have H : (if a0 < 128 then (some (1, 0, 0)) else (if a0 ≥ 194 then (rebusref01_row.j0 k a0 (decide (a0 ≤ 223))) else (rebusref01_row.j0 k a0 false))) = some (r1, r2, r3) := h
 clear h
 by_cases c2 : a0 < 128
 ·rw [if_pos c2] at H
  have c2b0 : decide (a0 < 128) = true := decide_eq_true c2
  clear c2
  simp only [Option.some.injEq, Prod.mk.injEq] at H
  obtain ⟨rfl, rfl, rfl⟩ := H
  go_enter Tryz.func78, Tryz.ntmps78
  go_wp2
  go_ret3
  exact ⟨by first | rfl | (simp; done) | (simp [*]; done), by repeat (first | exact Drawn0.refl _ | apply Drawn0.step)⟩
 ·rw [if_neg c2] at H
  have c2b0 : decide (a0 < 128) = false := decide_eq_false c2
  clear c2
  have HC3 := Aside0.mk H
  clear H
  go_enter Tryz.func78, Tryz.ntmps78
  go_upto_region 3 with (fail)
  go_cut [8] (fun v8 wc => ∃ (kq : Nat) (x8_2 : Bool), v8 = .bool x8_2 ∧ Aside0 (rebusref01_row.j0 kq a0 x8_2 = some (r1, r2, r3)) ∧ Aside0 (kq ≤ k) ∧ Drawn0 w wc)
  case first =>
   have H := HC3.out
   clear HC3
   by_cases c4 : a0 ≥ 194
   ·rw [if_pos c4] at H
    have c4b0 : decide (194 ≤ a0) = true := decide_eq_true c4
    clear c4
    (first | rw [c4b0] | (simp only [i64_w, i32_w]; rw [c4b0]) | skip)
    have H' := Aside0.mk H
    clear H
    go_wp2
    go_meet
    case rel => exact ⟨_, (decide (a0 ≤ 223)), (by first | rfl | (simp; done) | (simp [*]; done)), H', ⟨by first | omega | exact Nat.le_refl _⟩, by repeat (first | exact Drawn0.refl _ | apply Drawn0.step)⟩
   ·rw [if_neg c4] at H
    have c4b0 : decide (194 ≤ a0) = false := decide_eq_false c4
    clear c4
    (first | rw [c4b0] | (simp only [i64_w, i32_w]; rw [c4b0]) | skip)
    have H' := Aside0.mk H
    clear H
    go_wp2
    go_meet
    case rel => exact ⟨_, (false), (by first | rfl | (simp; done) | (simp [*]; done)), H', ⟨by first | omega | exact Nat.le_refl _⟩, by repeat (first | exact Drawn0.refl _ | apply Drawn0.step)⟩
  case rest =>
   clear HC3
   try clear c2
   try clear c2b0
   try clear p2
   try clear c4
   try clear c4b0
   obtain ⟨kq, x8_2, rfl, HA, HJ2, ⟨mc2, rfl⟩⟩ := hcut
   cases kq with
   | zero => exact absurd HA.out (by simp [rebusref01_row.j0])
   | succ kj2 =>
    have H := HA.out
    clear HA
    simp only [rebusref01_row.j0] at H
    by_cases c5 : x8_2 = true
    ·subst c5
     have H1 : (some (2, 128, 191)) = some (r1, r2, r3) := by rw [if_pos rfl] at H; exact H
     clear H
     have H := H1
     clear H1
     simp only [Option.some.injEq, Prod.mk.injEq] at H
     obtain ⟨rfl, rfl, rfl⟩ := H
     go_wp2
     go_ret3
     exact ⟨by first | rfl | (simp; done) | (simp [*]; done), by repeat (first | exact Drawn0.refl _ | apply Drawn0.step)⟩
    ·replace c5 := Bool.eq_false_iff.mpr c5
     subst c5
     have H1 : (if a0 = 224 then (some (3, 160, 191)) else (if a0 = 237 then (some (3, 128, 159)) else (if a0 ≥ 225 then (rebusref01_row.j1 kj2 a0 (decide (a0 ≤ 239))) else (rebusref01_row.j1 kj2 a0 false)))) = some (r1, r2, r3) := by rw [if_neg (show ¬ (false = true) by decide)] at H; exact H
     clear H
     have H := H1
     clear H1
     by_cases c6 : a0 = 224
     ·rw [if_pos c6] at H
      have c6b0 : (a0 == 224) = true := beq_iff_eq.mpr c6
      have c6b1 : (a0 != 224) = false := bne_eq_false_iff_eq.mpr c6
      clear c6
      simp only [Option.some.injEq, Prod.mk.injEq] at H
      obtain ⟨rfl, rfl, rfl⟩ := H
      go_wp2
      go_ret3
      exact ⟨by first | rfl | (simp; done) | (simp [*]; done), by repeat (first | exact Drawn0.refl _ | apply Drawn0.step)⟩
     ·rw [if_neg c6] at H
      have c6b0 : (a0 == 224) = false := beq_eq_false_iff_ne.mpr c6
      have c6b1 : (a0 != 224) = true := bne_iff_ne.mpr c6
      by_cases c7 : a0 = 237
      ·rw [if_pos c7] at H
       have c7b0 : (a0 == 237) = true := beq_iff_eq.mpr c7
       have c7b1 : (a0 != 237) = false := bne_eq_false_iff_eq.mpr c7
       clear c7
       simp only [Option.some.injEq, Prod.mk.injEq] at H
       obtain ⟨rfl, rfl, rfl⟩ := H
       go_wp2
       go_ret3
       exact ⟨by first | rfl | (simp; done) | (simp [*]; done), by repeat (first | exact Drawn0.refl _ | apply Drawn0.step)⟩
      ·rw [if_neg c7] at H
       have c7b0 : (a0 == 237) = false := beq_eq_false_iff_ne.mpr c7
       have c7b1 : (a0 != 237) = true := bne_iff_ne.mpr c7
       have HC8 := Aside0.mk H
       clear H
       go_upto_region 9 with (fail)
       go_cut [21] (fun v21 wc => ∃ (kq : Nat) (x21_7 : Bool), v21 = .bool x21_7 ∧ Aside0 (rebusref01_row.j1 kq a0 x21_7 = some (r1, r2, r3)) ∧ Aside0 (kq ≤ kj2) ∧ Drawn0 w wc)
       case first =>
        have H := HC8.out
        clear HC8
        by_cases c9 : a0 ≥ 225
        ·rw [if_pos c9] at H
         have c9b0 : decide (225 ≤ a0) = true := decide_eq_true c9
         clear c9
         (first | rw [c9b0] | (simp only [i64_w, i32_w]; rw [c9b0]) | skip)
         have H' := Aside0.mk H
         clear H
         go_wp2
         go_meet
         case rel => exact ⟨_, (decide (a0 ≤ 239)), (by first | rfl | (simp; done) | (simp [*]; done)), H', ⟨by have := HJ2.out; first | omega | exact Nat.le_refl _⟩, by repeat (first | exact Drawn0.refl _ | apply Drawn0.step)⟩
        ·rw [if_neg c9] at H
         have c9b0 : decide (225 ≤ a0) = false := decide_eq_false c9
         clear c9
         (first | rw [c9b0] | (simp only [i64_w, i32_w]; rw [c9b0]) | skip)
         have H' := Aside0.mk H
         clear H
         go_wp2
         go_meet
         case rel => exact ⟨_, (false), (by first | rfl | (simp; done) | (simp [*]; done)), H', ⟨by have := HJ2.out; first | omega | exact Nat.le_refl _⟩, by repeat (first | exact Drawn0.refl _ | apply Drawn0.step)⟩
       case rest =>
        clear HC8
        try clear c2
        try clear c2b0
        try clear p2
        try clear c4
        try clear c4b0
        try clear c5
        try clear c6
        try clear c6b0
        try clear c6b1
        try clear c7
        try clear c7b0
        try clear c7b1
        try clear c9
        try clear c9b0
        try clear p2
        obtain ⟨kq, x21_7, rfl, HA, HJ7, ⟨mc7, rfl⟩⟩ := hcut
        cases kq with
        | zero => exact absurd HA.out (by simp [rebusref01_row.j1])
        | succ kj7 =>
         have H := HA.out
         clear HA
         simp only [rebusref01_row.j1] at H
         by_cases c10 : x21_7 = true
         ·subst c10
          have H1 : (some (3, 128, 191)) = some (r1, r2, r3) := by rw [if_pos rfl] at H; exact H
          clear H
          have H := H1
          clear H1
          simp only [Option.some.injEq, Prod.mk.injEq] at H
          obtain ⟨rfl, rfl, rfl⟩ := H
          go_wp2
          go_ret3
          exact ⟨by first | rfl | (simp; done) | (simp [*]; done), by repeat (first | exact Drawn0.refl _ | apply Drawn0.step)⟩
         ·replace c10 := Bool.eq_false_iff.mpr c10
          subst c10
          have H1 : (if a0 = 240 then (some (4, 144, 191)) else (if a0 ≥ 241 then (rebusref01_row.j2 kj7 a0 (decide (a0 ≤ 243))) else (rebusref01_row.j2 kj7 a0 false))) = some (r1, r2, r3) := by rw [if_neg (show ¬ (false = true) by decide)] at H; exact H
          clear H
          have H := H1
          clear H1
          by_cases c11 : a0 = 240
          ·rw [if_pos c11] at H
           have c11b0 : (a0 == 240) = true := beq_iff_eq.mpr c11
           have c11b1 : (a0 != 240) = false := bne_eq_false_iff_eq.mpr c11
           clear c11
           simp only [Option.some.injEq, Prod.mk.injEq] at H
           obtain ⟨rfl, rfl, rfl⟩ := H
           go_wp2
           go_ret3
           exact ⟨by first | rfl | (simp; done) | (simp [*]; done), by repeat (first | exact Drawn0.refl _ | apply Drawn0.step)⟩
          ·rw [if_neg c11] at H
           have c11b0 : (a0 == 240) = false := beq_eq_false_iff_ne.mpr c11
           have c11b1 : (a0 != 240) = true := bne_iff_ne.mpr c11
           have HC12 := Aside0.mk H
           clear H
           go_upto_region 13 with (fail)
           go_cut [31] (fun v31 wc => ∃ (kq : Nat) (x31_11 : Bool), v31 = .bool x31_11 ∧ Aside0 (rebusref01_row.j2 kq a0 x31_11 = some (r1, r2, r3)) ∧ Aside0 (kq ≤ kj7) ∧ Drawn0 w wc)
           case first =>
            have H := HC12.out
            clear HC12
            by_cases c13 : a0 ≥ 241
            ·rw [if_pos c13] at H
             have c13b0 : decide (241 ≤ a0) = true := decide_eq_true c13
             clear c13
             (first | rw [c13b0] | (simp only [i64_w, i32_w]; rw [c13b0]) | skip)
             have H' := Aside0.mk H
             clear H
             go_wp2
             go_meet
             case rel => exact ⟨_, (decide (a0 ≤ 243)), (by first | rfl | (simp; done) | (simp [*]; done)), H', ⟨by have := HJ2.out; have := HJ7.out; first | omega | exact Nat.le_refl _⟩, by repeat (first | exact Drawn0.refl _ | apply Drawn0.step)⟩
            ·rw [if_neg c13] at H
             have c13b0 : decide (241 ≤ a0) = false := decide_eq_false c13
             clear c13
             (first | rw [c13b0] | (simp only [i64_w, i32_w]; rw [c13b0]) | skip)
             have H' := Aside0.mk H
             clear H
             go_wp2
             go_meet
             case rel => exact ⟨_, (false), (by first | rfl | (simp; done) | (simp [*]; done)), H', ⟨by have := HJ2.out; have := HJ7.out; first | omega | exact Nat.le_refl _⟩, by repeat (first | exact Drawn0.refl _ | apply Drawn0.step)⟩
           case rest =>
            clear HC12
            try clear c1
            try clear c2
            try clear c2b0
            try clear p2
            try clear c4
            try clear c4b0
            try clear c5
            try clear c6
            try clear c6b0
            try clear c6b1
            try clear c7
            try clear c7b0
            try clear c7b1
            try clear c9
            try clear c9b0
            try clear c10
            try clear c11
            try clear c11b0
            try clear c11b1
            try clear c13
            try clear c13b0
            try clear p2
            obtain ⟨kq, x31_11, rfl, HA, HJ11, ⟨mc11, rfl⟩⟩ := hcut
            cases kq with
            | zero => exact absurd HA.out (by simp [rebusref01_row.j2])
            | succ kj11 =>
             have H := HA.out
             clear HA
             simp only [rebusref01_row.j2] at H
             by_cases c14 : x31_11 = true
             ·subst c14
              have H1 : (some (4, 128, 191)) = some (r1, r2, r3) := by rw [if_pos rfl] at H; exact H
              clear H
              have H := H1
              clear H1
              simp only [Option.some.injEq, Prod.mk.injEq] at H
              obtain ⟨rfl, rfl, rfl⟩ := H
              go_wp2
              go_ret3
              exact ⟨by first | rfl | (simp; done) | (simp [*]; done), by repeat (first | exact Drawn0.refl _ | apply Drawn0.step)⟩
             ·replace c14 := Bool.eq_false_iff.mpr c14
              subst c14
              have H1 : (if a0 = 244 then (some (4, 128, 143)) else (some (0, 0, 0))) = some (r1, r2, r3) := by rw [if_neg (show ¬ (false = true) by decide)] at H; exact H
              clear H
              have H := H1
              clear H1
              by_cases c15 : a0 = 244
              ·rw [if_pos c15] at H
               have c15b0 : (a0 == 244) = true := beq_iff_eq.mpr c15
               have c15b1 : (a0 != 244) = false := bne_eq_false_iff_eq.mpr c15
               clear c15
               simp only [Option.some.injEq, Prod.mk.injEq] at H
               obtain ⟨rfl, rfl, rfl⟩ := H
               go_wp2
               go_ret3
               exact ⟨by first | rfl | (simp; done) | (simp [*]; done), by repeat (first | exact Drawn0.refl _ | apply Drawn0.step)⟩
              ·rw [if_neg c15] at H
               have c15b0 : (a0 == 244) = false := beq_eq_false_iff_ne.mpr c15
               have c15b1 : (a0 != 244) = true := bne_iff_ne.mpr c15
               simp only [Option.some.injEq, Prod.mk.injEq] at H
               obtain ⟨rfl, rfl, rfl⟩ := H
               go_wp2
               go_ret3
               exact ⟨by first | rfl | (simp; done) | (simp [*]; done), by repeat (first | exact Drawn0.refl _ | apply Drawn0.step)⟩
end Go.Proofs.YtiipailmldbpbaaGreatDoor.Q
end
