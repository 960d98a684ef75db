/- PART 8 OF A PROOF: Lean functions, and that the program computes them; written by hand and by a program. Not trusted: Lean checks it. -/
import Derived.Test.YtiipailmldbpbaaGreatDoorZa3
import Derived.Test.YtiipailmldbpbaaGreatDoorZa4
import Derived.Test.YtiipailmldbpbaaGreatDoorZa5
import Derived.Test.YtiipailmldbpbaaGreatDoorZa6
import Derived.Test.YtiipailmldbpbaaGreatDoorZa7
set_option linter.unusedVariables false
set_option linter.unusedSimpArgs false
section
namespace Go.Proofs.YtiipailmldbpbaaGreatDoor.Q
open Go.RowKit Go.Proofs.YtiipailmldbpbaaGreatDoorW.PrintWords Go.Proofs.YtiipailmldbpbaaGreatDoorW.PrintLast Go.Proofs.YtiipailmldbpbaaGreatDoorW.PrintMore
attribute [local go_sem] max2_int min2_int max_two min_two max_three min_three max_four min_four
set_option linter.unusedVariables false
set_option linter.unusedSimpArgs false
open Go.Proofs.YtiipailmldbpbaaGreatDoorS
theorem fold_Class_eq (r : Int) : fold_Class.f 3 r = some (uclass r) := by
 by_cases h : 0 ≤ r ∧ r < 1200
 ·have hh : ∀ n : Nat, n < 1200 → fold_Class.f 3 (n : Int) = some (uclass n) := by decide +kernel
  have := hh r.toNat (by omega)
  rwa [show ((r.toNat : Nat) : Int) = r from by omega] at this
 ·have hu : uclass r = 0 := by unfold uclass; repeat rw [if_neg (by omega)]
  rw [hu]
  by_cases h0 : r < 0
  ·simp [fold_Class.f, fold_Class.j0, fold_Class.j1, fold_in.f, show ¬ (48 ≤ r) by omega, show ¬ (9 ≤ r) by omega, show ¬ (768 ≤ r) by omega, show ¬ (65 ≤ r) by omega, show ¬ (97 ≤ r) by omega, show ¬ (192 ≤ r) by omega, show ¬ (913 ≤ r) by omega, show ¬ (945 ≤ r) by omega, show ¬ (1024 ≤ r) by omega, show ¬ (r = 32) by omega, show ¬ (r = 160) by omega, show ¬ (r = 215) by omega, show ¬ (r = 247) by omega, show ¬ (r = 930) by omega]
  ·have h1 : 1200 ≤ r := by omega
   simp [fold_Class.f, fold_Class.j0, fold_Class.j1, fold_in.f, show (48 ≤ r) by omega, show (9 ≤ r) by omega, show (768 ≤ r) by omega, show (65 ≤ r) by omega, show (97 ≤ r) by omega, show (192 ≤ r) by omega, show (913 ≤ r) by omega, show (945 ≤ r) by omega, show (1024 ≤ r) by omega, show ¬ (r ≤ 57) by omega, show ¬ (r ≤ 13) by omega, show ¬ (r ≤ 879) by omega, show ¬ (r ≤ 90) by omega, show ¬ (r ≤ 122) by omega, show ¬ (r ≤ 383) by omega, show ¬ (r ≤ 937) by omega, show ¬ (r ≤ 969) by omega, show ¬ (r ≤ 1119) by omega, show ¬ (r = 32) by omega, show ¬ (r = 160) by omega, show ¬ (r = 215) by omega, show ¬ (r = 247) by omega, show ¬ (r = 930) by omega]
theorem fold_Upper_eq (r : Int) (h0 : -2147483648 ≤ r) (h1 : r ≤ 2147483647) : fold_Upper.f 4 r = some (uupper r) := by
 by_cases h : 0 ≤ r ∧ r < 1200
 ·have hh : ∀ n : Nat, n < 1200 → fold_Upper.f 4 (n : Int) = some (uupper n) := by decide +kernel
  have := hh r.toNat (by omega)
  rwa [show ((r.toNat : Nat) : Int) = r from by omega] at this
 ·have hu : uupper r = r := by unfold uupper; repeat rw [if_neg (by omega)]
  rw [hu]
  by_cases h2 : r < 0
  ·simp [fold_Upper.f, fold_Upper.j0, fold_Upper.j1, fold_Upper.j2, fold_in.f, show ¬ (97 ≤ r) by omega, show ¬ (224 ≤ r) by omega, show ¬ (945 ≤ r) by omega, show ¬ (1072 ≤ r) by omega, show ¬ (1104 ≤ r) by omega, show ¬ (256 ≤ r) by omega, show ¬ (330 ≤ r) by omega, show ¬ (313 ≤ r) by omega, show ¬ (377 ≤ r) by omega, show ¬ (r = 247) by omega, show ¬ (r = 305) by omega, show ¬ (r = 255) by omega, show ¬ (r = 962) by omega]
  ·have h3 : 1200 ≤ r := by omega
   simp [fold_Upper.f, fold_Upper.j0, fold_Upper.j1, fold_Upper.j2, fold_in.f, show (97 ≤ r) by omega, show (224 ≤ r) by omega, show (945 ≤ r) by omega, show (1072 ≤ r) by omega, show (1104 ≤ r) by omega, show (256 ≤ r) by omega, show (330 ≤ r) by omega, show (313 ≤ r) by omega, show (377 ≤ r) by omega, show ¬ (r ≤ 122) by omega, show ¬ (r ≤ 254) by omega, show ¬ (r ≤ 969) by omega, show ¬ (r ≤ 1103) by omega, show ¬ (r ≤ 1119) by omega, show ¬ (r ≤ 311) by omega, show ¬ (r ≤ 375) by omega, show ¬ (r ≤ 328) by omega, show ¬ (r ≤ 382) by omega, show ¬ (r = 247) by omega, show ¬ (r = 305) by omega, show ¬ (r = 255) by omega, show ¬ (r = 962) by omega]
def fold_Fold.f (a0 : ByteArray) (a1 : Bool) : Option ByteArray := if a0.size ≤ 1099511627776 then some (ufold a0 a1) else none
def ufacc (p : Bool) (pre : List URune) : List UInt8 := (pre.map fun x => (x.1.2.1 : Int)).flatMap (upiece p)
theorem ufacc_snoc (p : Bool) (pre : List URune) (x : URune) : ufacc p (pre ++ [x]) = ufacc p pre ++ upiece p (x.1.2.1 : Int) := by simp [ufacc]
theorem ufacc_done (p : Bool) (s : ByteArray) (xs : List URune) (h : xs.map Subtype.val = uall s) : (⟨(ufacc p xs).toArray⟩ : ByteArray) = ufold s p := by
 unfold ufacc ufold urunes
 rw [← h, List.map_map]
 rfl
theorem upiece_length (p : Bool) (r : Int) : (upiece p r).length ≤ 4 := by
 unfold upiece
 split
 ·split
  ·exact uplain_size _
  ·exact encode_size _
 ·simp
theorem ufacc_length (p : Bool) (pre : List URune) : (Lib.byteCells (ufacc p pre)).length ≤ 4 * pre.length := by
 rw [Lib.byteCells_length]
 unfold ufacc
 induction pre with
 | nil => simp
 | cons x l ih =>
  have := upiece_length p (x.1.2.1 : Int)
  simp only [List.map_cons, List.flatMap_cons, List.length_append, List.length_cons]
  omega
theorem uupper_range (r : Int) (h0 : 0 ≤ r) (h1 : r ≤ 2147483647) : 0 ≤ uupper r ∧ uupper r ≤ 2147483647 := by
 unfold uupper
 repeat' split
 all_goals omega
attribute [local go_sem] Oper.semAt_some
set_option maxHeartbeats 4000000 in
set_option maxRecDepth 1000000 in
theorem fold_Fold.calls (a0 : ByteArray) (a1 : Bool) (r : ByteArray) (w : World) (h : fold_Fold.f a0 a1 = some r) :
  Calls Tryz.prog 16 #[.string a0, .bool a1] w fun e w' => e = .returned (.string r) ∧ Below w.heap.size w w' := by
 obtain ⟨hs, rfl⟩ := guard_some h
 clear h
 refine (callsIn_wide (n := 9)).1 ?_
 refine callsIn_of_wp_marks Tryz.func16 rfl trivial ?_ rfl
 simp only [Tryz.ntmps16, List.size_toArray, List.length_cons, List.length_nil, Nat.reduceAdd, Nat.reduceSub, Array.replicate_succ, Array.replicate_zero, List.push_toArray, List.append_toArray, List.nil_append, List.cons_append]
 gi_wp2_with (refine ⟨trivial, ?_⟩; gi_at_call 32; refine (callsIn_wide.2 (utf_All_call _ _)).mono ?_; rintro e w' ⟨rfl, rfl⟩)
 have hbx : Lib.IsBuilderF 63 5 (w.heap.size + 1) (w.heap.size + 1) (Lib.byteCells []) ((w.alloc (.cells #[.bool a1] 4)).alloc (.cells #[.pointer none, .slice none 0 0] 63)) := by
  have := Lib.IsBuilderF.of (Lib.fresh_isBuilder 63 5 (w.alloc (.cells #[.bool a1] 4)))
  rw [World.size_alloc] at this
  exact this
 refine wpIn_rangeFunc_ownF rfl (by omega) (gf := 56) (lb := #[.pointer (some ⟨w.heap.size + 2, 0, none⟩)]) rfl trivial (enters_of Tryz.func56 (by kernel_rfl) rfl)
  (all1_stops Fence.wide _ trivial rfl (by omega) (w.heap.size + 2) a0 _ (by omega) (cell_new1 _ _ _ _ (by simp))) walksK_t walksK_b (Below.refl _ _) (fun _ => rfl)
  (fun pre W => Lib.IsBuilderF 63 5 (w.heap.size + 1) (w.heap.size + 1) (Lib.byteCells (ufacc a1 pre)) W ∧ W.cell? ⟨w.heap.size, 0, none⟩ = some (.bool a1) ∧ Below w.heap.size w W)
  (fun _ _ _ => False) ?hI (fun _ _ _ _ _ hs _ _ => hs) ?h0
  (fun x => { tmps := #[.string a0, .bool a1, undef, .pointer (some ⟨w.heap.size, 0, none⟩), .string ⟨#[]⟩, .pointer (some ⟨w.heap.size + 1, 0, none⟩), undef, .int .i32 x.1.2.1, .string a0, .func (.func 56) #[] #[.pointer (some ⟨w.heap.size + 2, 0, none⟩)], .int .i64 x.1.1, .int .i32 x.1.2.1, undef, undef, undef, undef, undef, undef, undef, undef, undef, undef, undef, undef, undef, undef], defers := [] }) ?assign ?body ?done ?stop
 case hI => exact OwnFrom.and (Own.from (I := fun (pre : List URune) W => Lib.IsBuilderF 63 5 (w.heap.size + 1) (w.heap.size + 1) (Lib.byteCells (ufacc a1 pre)) W) (fun s A B row hs hg hr => bld_turn hs hg hr) _) (OwnFrom.and (Own.from (I := fun (pre : List URune) W => W.cell? ⟨w.heap.size, 0, none⟩ = some (.bool a1)) (fun s A B row hs hg hr => cell_kept hs hg hr) _) (ownFrom_below (Nat.le_refl _) (by simp; omega)))
 case h0 => exact ⟨hbx.alloc _, cell_old1 (cell_old1 (cell_new1 _ _ _ _ rfl) _) _, (((Below.refl _ w).alloc (Nat.le_refl _) _).alloc (by simp) _).alloc (by simp; omega) _⟩
 case assign =>
  intro l x W K hK
  simp only [uenc]
  gi_wp2
  exact hK
 case body =>
  rintro l pre x W ⟨hI, hc0, hB⟩ hlen
  have hd : 1 ≤ 9 - 1 - 1 := by omega
  obtain ⟨ru, hru⟩ : ∃ ru : Int, (x.1.2.1 : Int) = ru := ⟨_, rfl⟩
  have hr0 : 0 ≤ ru := by omega
  have hr1 : ru ≤ 2147483647 := by have := x.2; omega
  have hup := uupper_range ru hr0 hr1
  have hacc : (Lib.byteCells (ufacc a1 pre)).length + 4 ≤ 140737488355328 := by
   have h1 := ufacc_length a1 pre
   omega
  have hsn : ufacc a1 (pre ++ [x]) = ufacc a1 pre ++ upiece a1 ru := by rw [ufacc_snoc, hru]
  rw [hru]
  by_cases hcl : uclass ru = 1
  ·have hcb : (uclass ru != 1) = false := by simp [hcl]
   cases a1 with
   | true =>
    have hp : upiece true ru = (uplain (uupper ru)).data.toList := by simp [upiece, hcl]
    have hps := uplain_size (uupper ru)
    replace hru := Lib.hid hru
    replace hcl := Lib.hid hcl
    replace hsn := Lib.hid hsn
    replace hp := Lib.hid hp
    gi_wp2_with (refine ⟨trivial, ?_⟩; first | (gi_at_call 33; refine (CallsIn.inRound l (callsIn_wide.2 (fold_Class.calls 3 _ _ _ (fold_Class_eq _)))).mono ?_; rintro e w' ⟨rfl, hb1⟩; replace hb1 := hb1.below; have hI1 := bld_below hI hb1; have hc1 := pw_cell_below hb1 hc0) | (gi_at_call 36; refine (CallsIn.inRound l (callsIn_wide.2 (fold_Upper.calls 4 _ _ _ (fold_Upper_eq _ (by omega) (by omega))))).mono ?_; rintro e w2 ⟨rfl, hb2⟩; replace hb2 := hb2.below; have hI2 := bld_below hI1 hb2) | (gi_at_call 35; refine (CallsIn.inRound l (callsIn_wide.2 (fold_Plain.calls _ _ _ rfl))).mono ?_; rintro e w3 ⟨rfl, hb3⟩; have hI3 := bld_below hI2 hb3) | (gi_at_call 34; refine (CallsIn.inRound l (callsIn_wide.2 (bld_WriteString _ _ _ _ _ hI3 (by omega) (bld_size hI3)))).mono ?_; rintro e w4 ⟨rfl, hI4, hb4, hk4⟩))
    have hko : KeepsOthers W w4 := (((keeps_below hb1).trans (keeps_below hb2)).trans (keeps_below hb3)).trans (bld_keeps hI3 hk4 hb4.size)
    refine ⟨hko, hko.walks, ?_, ?_, ?_⟩
    ·show Lib.IsBuilderF 63 5 (w.heap.size + 1) (w.heap.size + 1) (Lib.byteCells (ufacc true (pre ++ [x]))) w4
     rw [hsn.out, hp.out, Lib.byteCells_append, ← Lib.strCells_eq]
     exact Or.inr hI4
    ·exact (hb4.cell (p := ⟨w.heap.size, 0, none⟩) (Nat.lt_succ_self _)).trans (pw_cell_below hb3 (pw_cell_below hb2 hc1))
    ·exact (((hB.trans (hb1.mono hB.size)).trans (hb2.mono (by have := hB.size; have := hb1.size; omega))).trans (hb3.mono (by have := hB.size; have := hb1.size; have := hb2.size; omega))).trans (hb4.mono (by omega))
   | false =>
    have hp : upiece false ru = (Utf8.encode (uupper ru)).data.toList := by simp [upiece, hcl]
    replace hru := Lib.hid hru
    replace hcl := Lib.hid hcl
    replace hsn := Lib.hid hsn
    replace hp := Lib.hid hp
    gi_wp2_with (refine ⟨trivial, ?_⟩; first | (gi_at_call 33; refine (CallsIn.inRound l (callsIn_wide.2 (fold_Class.calls 3 _ _ _ (fold_Class_eq _)))).mono ?_; rintro e w' ⟨rfl, hb1⟩; replace hb1 := hb1.below; have hI1 := bld_below hI hb1; have hc1 := pw_cell_below hb1 hc0) | (gi_at_call 36; refine (CallsIn.inRound l (callsIn_wide.2 (fold_Upper.calls 4 _ _ _ (fold_Upper_eq _ (by omega) (by omega))))).mono ?_; rintro e w2 ⟨rfl, hb2⟩; replace hb2 := hb2.below; have hI2 := bld_below hI1 hb2) | (gi_at_call 37; refine (CallsIn.inRound l (callsIn_wide.2 (bld_WriteRune _ _ _ _ (by omega) (by omega) _ hI2 (by omega) (bld_size hI2)))).mono ?_; rintro e w4 ⟨rfl, hI4, hb4, hk4⟩))
    have hko : KeepsOthers W w4 := ((keeps_below hb1).trans (keeps_below hb2)).trans (bld_keeps hI2 hk4 hb4.size)
    refine ⟨hko, hko.walks, ?_, ?_, ?_⟩
    ·show Lib.IsBuilderF 63 5 (w.heap.size + 1) (w.heap.size + 1) (Lib.byteCells (ufacc false (pre ++ [x]))) w4
     rw [hsn.out, hp.out, Lib.byteCells_append, ← runeCells_encode]
     exact Or.inr hI4
    ·exact (hb4.cell (p := ⟨w.heap.size, 0, none⟩) (Nat.lt_succ_self _)).trans (pw_cell_below hb2 hc1)
    ·exact ((hB.trans (hb1.mono hB.size)).trans (hb2.mono (by have := hB.size; have := hb1.size; omega))).trans (hb4.mono (by omega))
  ·have hcb : (uclass ru != 1) = true := by simp [hcl]
   have hp : upiece a1 ru = [] := by simp [upiece, hcl]
   replace hru := Lib.hid hru
   clear hcl
   replace hsn := Lib.hid hsn
   replace hp := Lib.hid hp
   gi_wp2_with (refine ⟨trivial, ?_⟩; (gi_at_call 33; refine (CallsIn.inRound l (callsIn_wide.2 (fold_Class.calls 3 _ _ _ (fold_Class_eq _)))).mono ?_; rintro e w' ⟨rfl, hb1⟩; replace hb1 := hb1.below; have hI1 := bld_below hI hb1; have hc1 := pw_cell_below hb1 hc0))
   have hko : KeepsOthers W w' := keeps_below hb1
   refine ⟨hko, hko.walks, ?_, hc1, hB.trans (hb1.mono hB.size)⟩
   show Lib.IsBuilderF 63 5 (w.heap.size + 1) (w.heap.size + 1) (Lib.byteCells (ufacc a1 (pre ++ [x]))) w'
   rw [hsn.out, hp.out, List.append_nil]
   exact hI1
 case done =>
  rintro D xs W hD hS ⟨hI, hc0, hB⟩ hK
  gi_wp2_with (refine ⟨trivial, ?_⟩; gi_at_call 38; refine (callsIn_wide.2 (Tryz.Builder_String_any_k _ _ _ _ hI (bld_size hI))).mono ?_; rintro e w2 ⟨rfl, hI2, hb2, hk2⟩)
  have hne : D ≠ w.heap.size + 1 := by simp at hD; omega
  have hK2 : w2.heap[D]? = some (.deferred (some [])) := hk2 D _ hK (fun e => hne (Option.some.inj e)) (fun c fz e => by cases e)
  refine ⟨by simp, .inl ⟨_, _, rfl, run_takeDeferred hK2, ?_⟩⟩
  exact ⟨_, results_tmp rfl _ _ _, by simpa using ufacc_done a1 a0 xs hS, (hB.trans (hb2.mono (by omega))).trans (belowK_b (w := w) (Nat.le_refl _) w2 D _ _ (by simp at hD; omega) hK2 rfl rfl)⟩
 case stop =>
  rintro D c pre W hD _ h _
  exact h.elim
end Go.Proofs.YtiipailmldbpbaaGreatDoor.Q
end
section
namespace Go.Proofs.YtiipailmldbpbaaGreatDoor.Q
open Go.RowKit Go.Proofs.YtiipailmldbpbaaGreatDoorW.PrintWords Go.Proofs.YtiipailmldbpbaaGreatDoorW.PrintLast Go.Proofs.YtiipailmldbpbaaGreatDoorW.PrintMore
attribute [local go_sem] max2_int min2_int max_two min_two max_three min_three max_four min_four
set_option linter.unusedVariables false
set_option linter.unusedSimpArgs false
open Go.Proofs.YtiipailmldbpbaaGreatDoorS
def page_letter.f (a0 : ByteArray) : Option Bool := if a0.size ≤ 1099511627776 then some (uletter a0) else none
set_option maxHeartbeats 4000000 in
set_option maxRecDepth 1000000 in
theorem page_letter.calls (a0 : ByteArray) (r : Bool) (w : World) (h : page_letter.f a0 = some r) :
  Calls Tryz.prog 54 #[.string a0] w fun e w' => e = .returned (.bool r) ∧ Below w.heap.size w w' := by
 obtain ⟨hs, rfl⟩ := guard_some h
 clear h
 have hcl := ucount_le a0
 go_enter Tryz.func54, Tryz.ntmps54
 go_wp2
 go_loopw [3] (fun n wr => ∃ (pos f c : Nat), n = .int .i64 c ∧ wr.heap[w.heap.size]? = some (.stringIter a0 pos) ∧ Below w.heap.size w wr ∧ c + (ulist a0 f pos).length = ucount a0 ∧ uletter a0 = (((ulist a0 f pos).all fun t => ugood t.2.1) && decide (1 ≤ ucount a0 ∧ ucount a0 ≤ 3)) ∧ a0.size ≤ pos + f) (fun _ wr => a0.size - wr.iterPos w.heap.size)
 case atStart => exact ⟨0, a0.size, 0, rfl, World.iter_heap w a0 0, (Below.refl _ w).alloc (Nat.le_refl _) _, by simp [ucount, uall], by simp [uletter, urunes, uall, List.all_map, Function.comp_def], by omega⟩
 case round =>
  obtain ⟨pos, f, c, rfl, hit, hbw, hc, hl, hf⟩ := hrel
  by_cases hp : pos < a0.size
  ·have hnx : ∀ ty, (Instr.next (.pointer (some ⟨w.heap.size, 0, none⟩)) true ty).run Tryz.prog wr = _ := fun ty => Lib.run_next_any_at wr w.heap.size a0 pos ty hit hp
   have hwd := width_pos a0 pos hp
   have hd1 := decode_le a0 pos
   have hit2 := Lib.iterAt_heap wr (w.heap.size) a0 pos (pos + (Utf8.decode a0 pos).2) hit
   have hbw2 := Lib.below_iterAt hbw (k := w.heap.size) (by omega) a0 (pos + (Utf8.decode a0 pos).2)
   obtain ⟨f, rfl⟩ : ∃ f', f = f' + 1 := ⟨f - 1, by omega⟩
   rw [ulist_step a0 f pos hp, List.length_cons] at hc
   rw [ulist_step a0 f pos hp, List.all_cons] at hl
   have hc2 : c + 1 ≤ ucount a0 := by omega
   replace hc := Lib.hid hc
   by_cases h1 : uclass ((Utf8.decode a0 pos).1 : Int) = 1
   ·have h1b : (uclass ((Utf8.decode a0 pos).1 : Int) != 1) = false := by simp [h1]
    by_cases h2 : uupper ((Utf8.decode a0 pos).1 : Int) = ((Utf8.decode a0 pos).1 : Int)
    ·have h2b : (uupper ((Utf8.decode a0 pos).1 : Int) != ((Utf8.decode a0 pos).1 : Int)) = false := by simp [h2]
     have hl2 : uletter a0 = (((ulist a0 f (pos + (Utf8.decode a0 pos).2)).all fun t => ugood t.2.1) && decide (1 ≤ ucount a0 ∧ ucount a0 ≤ 3)) := by rw [hl]; simp [ugood, h1, h2]
     replace hl2 := Lib.hid hl2
     clear hl h1 h2
     go_wp2_with (first | (go_at_call 33; refine (fold_Class.calls 3 _ _ _ (fold_Class_eq _)).mono ?_; rintro e w3 ⟨rfl, hb3⟩; replace hb3 := hb3.below) | (go_at_call 36; refine (fold_Upper.calls 4 _ _ _ (fold_Upper_eq _ (by omega) (by omega))).mono ?_; rintro e w4 ⟨rfl, hb4⟩; replace hb4 := hb4.below))
     have hit4 : w4.heap[w.heap.size]? = some (.stringIter a0 (pos + (Utf8.decode a0 pos).2)) := (hb4.block _ (Nat.lt_of_lt_of_le (Array.getElem?_eq_some_iff.1 hit2).1 hb3.size)).trans ((hb3.block _ (Array.getElem?_eq_some_iff.1 hit2).1).trans hit2)
     go_roundw
     case rel => exact ⟨pos + (Utf8.decode a0 pos).2, f, c + 1, by go_num, hit4, (hbw2.trans (hb3.mono hbw2.size)).trans (hb4.mono (Nat.le_trans hbw2.size hb3.size)), by have := hc.out; omega, hl2.out, by omega⟩
     case measure => simp only [World.iterPos, hit4, hit]; omega
    ·have h2b : (uupper ((Utf8.decode a0 pos).1 : Int) != ((Utf8.decode a0 pos).1 : Int)) = true := by simp [h2]
     have hl2 : uletter a0 = false := by rw [hl]; simp [ugood, h2]
     replace hl2 := Lib.hid hl2
     clear hl h1 h2
     go_wp2_with (first | (go_at_call 33; refine (fold_Class.calls 3 _ _ _ (fold_Class_eq _)).mono ?_; rintro e w3 ⟨rfl, hb3⟩; replace hb3 := hb3.below) | (go_at_call 36; refine (fold_Upper.calls 4 _ _ _ (fold_Upper_eq _ (by omega) (by omega))).mono ?_; rintro e w4 ⟨rfl, hb4⟩; replace hb4 := hb4.below))
     go_ret
     rw [hl2.out]
     exact ⟨rfl, (hbw2.trans (hb3.mono hbw2.size)).trans (hb4.mono (Nat.le_trans hbw2.size hb3.size))⟩
   ·have h1b : (uclass ((Utf8.decode a0 pos).1 : Int) != 1) = true := by simp [h1]
    have hl2 : uletter a0 = false := by rw [hl]; simp [ugood, h1]
    replace hl2 := Lib.hid hl2
    clear hl h1
    go_wp2_with (first | (go_at_call 33; refine (fold_Class.calls 3 _ _ _ (fold_Class_eq _)).mono ?_; rintro e w3 ⟨rfl, hb3⟩; replace hb3 := hb3.below))
    go_ret
    rw [hl2.out]
    exact ⟨rfl, hbw2.trans (hb3.mono hbw2.size)⟩
  ·have hnx : ∀ ty, (Instr.next (.pointer (some ⟨w.heap.size, 0, none⟩)) true ty).run Tryz.prog wr = _ := fun ty => Lib.run_next_end_at wr (w.heap.size) a0 pos ty hit hp
   rw [ulist_end a0 f pos hp] at hc hl
   have hc : c = ucount a0 := hc
   subst hc
   have hl2 : uletter a0 = (decide (0 < (ucount a0 : Int)) && decide ((ucount a0 : Int) ≤ 3)) := by
    rw [hl, List.all_nil, Bool.true_and, Bool.eq_iff_iff]
    simp only [decide_eq_true_eq, Bool.and_eq_true]
    omega
   replace hl2 := Lib.hid hl2
   clear hl
   by_cases h0 : 0 < ucount a0
   ·go_wp2
    all_goals go_ret
    all_goals rw [hl2.out]
    all_goals exact ⟨by simp [h0], hbw⟩
   ·go_wp2
    all_goals go_ret
    all_goals rw [hl2.out]
    all_goals exact ⟨by simp [h0], hbw⟩
end Go.Proofs.YtiipailmldbpbaaGreatDoor.Q
end
section
namespace Go.Proofs.YtiipailmldbpbaaGreatDoor.Q
open Go.RowKit Go.Proofs.YtiipailmldbpbaaGreatDoorW.PrintWords Go.Proofs.YtiipailmldbpbaaGreatDoorW.PrintLast Go.Proofs.YtiipailmldbpbaaGreatDoorW.PrintMore
attribute [local go_sem] max2_int min2_int max_two min_two max_three min_three max_four min_four
set_option linter.unusedVariables false
set_option linter.unusedSimpArgs false
open Go.Proofs.YtiipailmldbpbaaGreatDoorS
theorem page_line_1.calls (x : Nat) (hx : x ≤ 1114111) (w : World) :
  Calls Tryz.prog 70 #[.int .i32 x] w fun e w' => e = .returned (.bool (podd x)) ∧ Below w.heap.size w w' := by
 by_cases h : (x : Int) < 32
 ·have hp : podd x = true := by simp [podd]; omega
  replace hp := Lib.hid hp
  go_enter Tryz.func70, Tryz.ntmps70
  go_wp2
  go_ret
  rw [hp.out]
  exact ⟨rfl, Below.refl _ _⟩
 ·by_cases h7 : (x : Int) = 127
  ·have hp : podd x = true := by simp [podd]; omega
   have h7b : ((x : Int) == 127) = true := by simp [h7]
   replace hp := Lib.hid hp
   clear h7
   go_enter Tryz.func70, Tryz.ntmps70
   go_wp2
   go_ret
   rw [hp.out]
   exact ⟨rfl, Below.refl _ _⟩
  ·have hp : podd x = false := by simp [podd]; omega
   have h7b : ((x : Int) == 127) = false := by simp [h7]
   replace hp := Lib.hid hp
   clear h7
   go_enter Tryz.func70, Tryz.ntmps70
   go_wp2
   go_ret
   rw [hp.out]
   exact ⟨rfl, Below.refl _ _⟩
end Go.Proofs.YtiipailmldbpbaaGreatDoor.Q
end
section
namespace Go.Proofs.YtiipailmldbpbaaGreatDoor.Q
open Go.RowKit Go.Proofs.YtiipailmldbpbaaGreatDoorW.PrintWords Go.Proofs.YtiipailmldbpbaaGreatDoorW.PrintLast Go.Proofs.YtiipailmldbpbaaGreatDoorW.PrintMore
attribute [local go_sem] max2_int min2_int max_two min_two max_three min_three max_four min_four
set_option linter.unusedVariables false
set_option linter.unusedSimpArgs false
open Go.Proofs.YtiipailmldbpbaaGreatDoorS
def uline (s : ByteArray) : Bool := decide (s.size ≤ 960) && (uvalid s && (!(decide (0 ≤ Lib.idxFunc podd true s)) && (Lib.trimB s.data.toList 32 == s.toList)))
def page_line.f (a0 : ByteArray) : Option Bool := if a0.size ≤ 140737488351232 then some (uline a0) else none
set_option maxHeartbeats 4000000 in
set_option maxRecDepth 1000000 in
theorem page_line.calls (a0 : ByteArray) (r : Bool) (w : World) (hT : Tabs w) (h : page_line.f a0 = some r) :
  Calls Tryz.prog 55 #[.string a0] w fun e w' => e = .returned (.bool r) ∧ Below w.heap.size w w' := by
 obtain ⟨hs, rfl⟩ := guard_some h
 clear h
 by_cases h1 : a0.size ≤ 960
 ·cases h2 : uvalid a0 with
  | false =>
   have hr : uline a0 = false := by simp [uline, h2]
   have hv : utf_Valid.f a0 = some false := by unfold utf_Valid.f; rw [if_pos hs, h2]
   replace hr := Lib.hid hr
   replace hv := Lib.hid hv
   clear h2
   go_enter Tryz.func55, Tryz.ntmps55
   go_wp2_with (go_at_call 71; refine (utf_Valid.calls _ _ _ hT hv.out).mono ?_; rintro e w3 ⟨rfl, hb3⟩)
   go_ret
   rw [hr.out]
   exact ⟨rfl, hb3⟩
  | true =>
   have hv : utf_Valid.f a0 = some true := by unfold utf_Valid.f; rw [if_pos hs, h2]
   have hpg : ∀ w3, PredGrows Tryz.prog 70 #[] podd w3 := fun w3 W x hx hb => page_line_1.calls x hx W
   have hpg := Lib.hid hpg
   replace hv := Lib.hid hv
   by_cases h3 : 0 ≤ Lib.idxFunc podd true a0
   ·have hr : uline a0 = false := by simp [uline, h3]
    have h3b : decide (0 ≤ Lib.idxFunc podd true a0) = true := by simp [h3]
    replace hr := Lib.hid hr
    clear h2 h3
    go_enter Tryz.func55, Tryz.ntmps55
    go_wp2_with (first | (go_at_call 71; refine (utf_Valid.calls _ _ _ hT hv.out).mono ?_; rintro e w3 ⟨rfl, hb3⟩) | (go_at_call 72; refine (Tryz.strings_ContainsFunc_grows 70 #[] (enters_of Tryz.func70 (by kernel_rfl) rfl) podd _ _ (hpg.out _)).mono ?_; rintro e w4 ⟨rfl, hb4⟩))
    go_ret
    rw [hr.out]
    exact ⟨rfl, hb3.trans (hb4.mono hb3.size)⟩
   ·have h3b : decide (0 ≤ Lib.idxFunc podd true a0) = false := by simp [h3]
    have hr : uline a0 = (Lib.trimB a0.data.toList 32 == a0.toList) := by simp [uline, h1, h2, h3b]
    replace hr := Lib.hid hr
    clear h2 h3
    have hsz : a0.size ≤ 9223372036854775807 := by omega
    go_enter Tryz.func55, Tryz.ntmps55
    go_wp2_with (first | (go_at_call 71; refine (utf_Valid.calls _ _ _ hT hv.out).mono ?_; rintro e w3 ⟨rfl, hb3⟩) | (go_at_call 72; refine (Tryz.strings_ContainsFunc_grows 70 #[] (enters_of Tryz.func70 (by kernel_rfl) rfl) podd _ _ (hpg.out _)).mono ?_; rintro e w4 ⟨rfl, hb4⟩) | (go_at_call 73; refine (Tryz.strings_Trim_one a0 32 (by decide) _ hsz).mono ?_; rintro e w5 ⟨rfl, hb5⟩))
    go_ret
    rw [hr.out]
    refine ⟨rfl, ?_⟩
    rcases hb5 with rfl | rfl
    ·exact hb3.trans (hb4.mono hb3.size)
    ·exact (hb3.trans (hb4.mono hb3.size)).drew
 ·have hr : uline a0 = false := by simp [uline, h1]
  replace hr := Lib.hid hr
  have h1' : 960 < a0.size := by omega
  clear h1
  go_enter Tryz.func55, Tryz.ntmps55
  go_wp2
  go_ret
  rw [hr.out]
  exact ⟨rfl, Below.refl _ _⟩
end Go.Proofs.YtiipailmldbpbaaGreatDoor.Q
end
section
namespace Go.Proofs.YtiipailmldbpbaaGreatDoor.Q
open Go.RowKit Go.Proofs.YtiipailmldbpbaaGreatDoorW.PrintWords Go.Proofs.YtiipailmldbpbaaGreatDoorW.PrintLast Go.Proofs.YtiipailmldbpbaaGreatDoorW.PrintMore
set_option linter.unusedVariables false
open Go.Proofs.YtiipailmldbpbaaGreatDoorS
def pbad1 (bl : List Bool) (cells : List ByteArray) (i : Nat) : Bool := !(rdOf ByteArray.empty cells (i : Int)).toList.isEmpty && (rdOf false bl (i : Int) || !uletter (rdOf ByteArray.empty cells (i : Int)))
def pbad (bl : List Bool) (cells : List ByteArray) : Nat → Nat → Bool
  | 0, _ => false
  | d + 1, i => pbad1 bl cells i || pbad bl cells d (i + 1)
def pcheck (title : ByteArray) (H W : Int) (bl ri be : List Bool) (cells clues : List ByteArray) : Int :=
  if gcheck H W bl ri be = 0 then (if cells.length = bl.length then (if pbad bl cells cells.length 0 then 33 else if clues.length = (slotsOf H W bl ri be).length then (if (clues ++ [title]).all uline then 0 else 221) else 160) else 51) else gcheck H W bl ri be
def Small (l : List ByteArray) : Prop := ∀ s ∈ l, s.size ≤ 1048576
theorem rdOf_mem {l : List ByteArray} {i : Nat} (h : i < l.length) : rdOf ByteArray.empty l (i : Int) ∈ l := by
  have e : rdOf ByteArray.empty l (i : Int) = l[i] := by simp [rdOf, List.getD_eq_getElem?_getD, h]
  rw [e]; exact List.getElem_mem h
theorem Small.rd {l : List ByteArray} (h : Small l) {i : Nat} (hi : i < l.length) : (rdOf ByteArray.empty l (i : Int)).size ≤ 1048576 := h _ (rdOf_mem hi)
theorem toList_nil {l : List UInt8} : l.isEmpty = false ↔ ¬ l = [] := by cases l <;> simp
def sbad (sc : List ByteArray) (ss : List Bool) : Nat → Nat → Bool
  | 0, _ => false
  | d + 1, i => ((rdOf ByteArray.empty sc (i : Int)).toList.isEmpty && rdOf false ss (i : Int)) || sbad sc ss d (i + 1)
def scheck (title : ByteArray) (H W : Int) (bl ri be : List Bool) (cells clues : List ByteArray) (sc : List ByteArray) (ss : List Bool) (at_ : Int) : Int :=
  if pcheck title H W bl ri be cells clues = 0 then (if sc.length = cells.length ∧ ss.length = cells.length then (if pcheck ⟨#[]⟩ H W bl ri be sc clues = 0 then (if sbad sc ss sc.length 0 then 33 else if gopen bl at_ then 0 else 230) else 33) else 51) else pcheck title H W bl ri be cells clues
theorem pcheck_ok {title : ByteArray} {H W : Int} {bl ri be : List Bool} {cells clues : List ByteArray} (h : pcheck title H W bl ri be cells clues = 0) : gcheck H W bl ri be = 0 ∧ cells.length = bl.length ∧ pbad bl cells cells.length 0 = false ∧ clues.length = (slotsOf H W bl ri be).length ∧ (clues ++ [title]).all uline = true := by
  unfold pcheck at h
  by_cases h1 : gcheck H W bl ri be = 0
  · rw [if_pos h1] at h
    by_cases h2 : cells.length = bl.length
    · rw [if_pos h2] at h
      cases h3 : pbad bl cells cells.length 0 with
      | true => rw [h3] at h; simp at h
      | false =>
        rw [h3] at h
        simp only [Bool.false_eq_true, if_false] at h
        by_cases h4 : clues.length = (slotsOf H W bl ri be).length
        · rw [if_pos h4] at h
          cases h5 : (clues ++ [title]).all uline with
          | true => exact ⟨h1, h2, rfl, h4, rfl⟩
          | false => rw [h5] at h; simp at h
        · rw [if_neg h4] at h; cases h
    · rw [if_neg h2] at h; cases h
  · rw [if_neg h1] at h; exact absurd h h1
theorem scheck_ok {title : ByteArray} {H W : Int} {bl ri be : List Bool} {cells clues sc : List ByteArray} {ss : List Bool} {at_ : Int} (h : scheck title H W bl ri be cells clues sc ss at_ = 0) : pcheck title H W bl ri be cells clues = 0 ∧ sc.length = cells.length ∧ ss.length = cells.length ∧ pcheck ⟨#[]⟩ H W bl ri be sc clues = 0 ∧ sbad sc ss sc.length 0 = false ∧ gopen bl at_ = true := by
  unfold scheck at h
  by_cases h1 : pcheck title H W bl ri be cells clues = 0
  · rw [if_pos h1] at h
    by_cases h2 : sc.length = cells.length ∧ ss.length = cells.length
    · rw [if_pos h2] at h
      by_cases h3 : pcheck ⟨#[]⟩ H W bl ri be sc clues = 0
      · rw [if_pos h3] at h
        cases h4 : sbad sc ss sc.length 0 with
        | true => rw [h4] at h; simp at h
        | false =>
          rw [h4] at h
          simp only [Bool.false_eq_true, if_false] at h
          cases h5 : gopen bl at_ with
          | true => exact ⟨h1, h2.1, h2.2, h3, rfl, rfl⟩
          | false => rw [h5] at h; simp at h
      · rw [if_neg h3] at h; cases h
    · rw [if_neg h2] at h; cases h
  · rw [if_neg h1] at h; exact absurd h h1
def firstOpen (bl : List Bool) : Nat → Nat → Int
  | 0, _ => -1
  | d + 1, i => if rdOf false bl (i : Int) then firstOpen bl d (i + 1) else (i : Int)
def sstart (title : ByteArray) (H W : Int) (bl ri be : List Bool) (cells clues : List ByteArray) : List ByteArray × List Bool × Int × Bool × Int :=
  if pcheck title H W bl ri be cells clues = 0 then (if firstOpen bl bl.length 0 < 0 then ([], [], 0, false, 230) else (List.replicate cells.length ⟨#[]⟩, List.replicate cells.length false, firstOpen bl bl.length 0, false, 0)) else ([], [], 0, false, pcheck title H W bl ri be cells clues)
end Go.Proofs.YtiipailmldbpbaaGreatDoor.Q
end
section
namespace Go.Proofs.YtiipailmldbpbaaGreatDoor.Q
open Go.RowKit Go.Proofs.YtiipailmldbpbaaGreatDoorW.PrintWords Go.Proofs.YtiipailmldbpbaaGreatDoorW.PrintLast Go.Proofs.YtiipailmldbpbaaGreatDoorW.PrintMore
attribute [local go_sem] max2_int min2_int max_two min_two max_three min_three max_four min_four
set_option linter.unusedVariables false
set_option linter.unusedSimpArgs false
open Go.Proofs.YtiipailmldbpbaaGreatDoorS
theorem seat_info : (Tryz.prog.info? 80).map (fun i => (i.zero, i.size, i.bytes)) = some (some (.agg #[(.int .i64 0), (.int .i64 0)]), 2, 16) := by kernel_rfl
def seatCells (s : Int) : List Int → Nat → List S80 → List S80
 | [], _, l => l
 | i :: is, at_, l => seatCells s is (at_ + 1) (l.set i.toNat ⟨s, (at_ : Int)⟩)
def seatS : List S83 → Nat → List S80 × List S80 → List S80 × List S80
 | [], _, p => p
 | x :: xs, s, p => seatS xs (s + 1) (if x.f1 then (p.1, seatCells (s : Int) x.f2 0 p.2) else (seatCells (s : Int) x.f2 0 p.1, p.2))
def seatsOf (H W : Int) (bl ri be : List Bool) : List S80 × List S80 :=
 if gcheck H W bl ri be = 0 then seatS (slotsOf H W bl ri be) 0 (List.replicate bl.length ⟨-1, 0⟩, List.replicate bl.length ⟨-1, 0⟩) else ([], [])
def slots_Seats.f (H W : Int) (bl ri be : List Bool) : Option (List S80 × List S80) := some (seatsOf H W bl ri be)
theorem seatCells_length (s : Int) : ∀ (cs : List Int) (k : Nat) (l : List S80), (seatCells s cs k l).length = l.length
 | [], _, _ => rfl
 | i :: is, k, l => by simp only [seatCells]; rw [seatCells_length s is]; simp
theorem grun_mem {H W : Int} {bl ri be : List Bool} (hc : gcheck H W bl ri be = 0) {way : Int} (hw : way = 0 ∨ way = 1) : ∀ (f : Nat) (i : Int), 0 ≤ i → i < bl.length → ∀ c ∈ grun H W bl ri be way f i, 0 ≤ c ∧ c < bl.length := by
 intro f
 induction f with
 | zero => intro i h0 h1 c hm; simp only [grun, List.mem_singleton] at hm; subst hm; exact ⟨h0, h1⟩
 | succ f ih =>
  intro i h0 h1 c hm
  cases hok : (gStep H W bl ri be i way).2 with
  | false => simp only [grun, hok, Bool.false_eq_true, if_false, List.mem_singleton] at hm; subst hm; exact ⟨h0, h1⟩
  | true =>
   have hy := gStep_yes hc hw hok
   simp only [grun, hok, if_true, List.mem_cons] at hm
   rcases hm with rfl | hm
   ·exact ⟨h0, h1⟩
   ·exact ih _ (by omega) hy.2.2 c hm
theorem grun_length {H W : Int} {bl ri be : List Bool} (hc : gcheck H W bl ri be = 0) {way : Int} (hw : way = 0 ∨ way = 1) : ∀ (f : Nat) (i : Int), 0 ≤ i → i < bl.length → (grun H W bl ri be way f i).length + i ≤ bl.length := by
 intro f
 induction f with
 | zero => intro i h0 h1; simp only [grun, List.length_singleton]; omega
 | succ f ih =>
  intro i h0 h1
  cases hok : (gStep H W bl ri be i way).2 with
  | false => simp only [grun, hok, Bool.false_eq_true, if_false, List.length_singleton]; omega
  | true =>
   have hy := gStep_yes hc hw hok
   simp only [grun, hok, if_true, List.length_cons]
   have := ih _ (by omega) hy.2.2
   omega
theorem gslots_mem {H W : Int} {bl ri be : List Bool} (hc : gcheck H W bl ri be = 0) : ∀ (d i : Nat) (num : Int), i + d = bl.length → ∀ x ∈ gslots H W bl ri be d i num, x.2.2.length ≤ bl.length ∧ ∀ c ∈ x.2.2, 0 ≤ c ∧ c < bl.length := by
 intro d
 induction d with
 | zero => intro i num _ x hx; simp [gslots] at hx
 | succ d ih =>
  intro i num hd x hx
  have hi0 : (0 : Int) ≤ (i : Int) := Int.natCast_nonneg _
  have hi1 : (i : Int) < (bl.length : Int) := Int.ofNat_lt.2 (by omega)
  simp only [gslots, List.mem_append] at hx
  rcases hx with (hx | hx) | hx
  ·split at hx
   ·simp only [List.mem_singleton] at hx
    subst hx
    exact ⟨by have := grun_length hc (.inl rfl) bl.length (i : Int) hi0 hi1; simp only; omega, grun_mem hc (.inl rfl) _ _ hi0 hi1⟩
   ·simp at hx
  ·split at hx
   ·simp only [List.mem_singleton] at hx
    subst hx
    exact ⟨by have := grun_length hc (.inr rfl) bl.length (i : Int) hi0 hi1; simp only; omega, grun_mem hc (.inr rfl) _ _ hi0 hi1⟩
   ·simp at hx
  ·exact ih (i + 1) _ (by omega) x hx
theorem gslots_count (H W : Int) (bl ri be : List Bool) : ∀ (d i : Nat) (num : Int), (gslots H W bl ri be d i num).length ≤ 2 * d := by
 intro d
 induction d with
 | zero => intro i num; simp [gslots]
 | succ d ih =>
  intro i num
  simp only [gslots, List.length_append]
  have := ih (i + 1) (if gbegins H W bl ri be i 0 || gbegins H W bl ri be i 1 then num + 1 else num)
  split <;> split <;> simp only [List.length_singleton, List.length_nil] <;> omega
theorem slotsOf_facts {H W : Int} {bl ri be : List Bool} (hc : gcheck H W bl ri be = 0) : (slotsOf H W bl ri be).length ≤ 2 * bl.length ∧ ∀ x ∈ slotsOf H W bl ri be, x.f2.length ≤ bl.length ∧ ∀ c ∈ x.f2, 0 ≤ c ∧ c < bl.length := by
 unfold slotsOf
 rw [if_pos hc]
 refine ⟨by rw [List.length_map]; exact gslots_count _ _ _ _ _ _ _ _, fun x hx => ?_⟩
 obtain ⟨y, hy, rfl⟩ := List.mem_map.1 hx
 exact gslots_mem hc bl.length 0 0 (by omega) y hy
theorem drop_rd {L : List S83} {m : Nat} (h : m < L.length) : L.drop m = rd_T83 L (m : Int) :: L.drop (m + 1) := by
 rw [List.drop_eq_getElem_cons h]
 simp [rd_T83, List.getD_eq_getElem?_getD, h]
theorem mem_rd {L : List S83} {m : Nat} (h : m < L.length) : rd_T83 L (m : Int) ∈ L := by
 have e : rd_T83 L (m : Int) = L[m] := by simp [rd_T83, List.getD_eq_getElem?_getD, h]
 rw [e]
 exact List.getElem_mem h
theorem drop_rdI {L : List Int} {m : Nat} (h : m < L.length) : L.drop m = rd L (m : Int) :: L.drop (m + 1) := by
 rw [List.drop_eq_getElem_cons h]
 simp [rd, List.getD_eq_getElem?_getD, h]
theorem mem_rdI {L : List Int} {m : Nat} (h : m < L.length) : rd L (m : Int) ∈ L := by
 have e : rd L (m : Int) = L[m] := by simp [rd, List.getD_eq_getElem?_getD, h]
 rw [e]
 exact List.getElem_mem h
structure SeatW (w wr : World) (b g0 g1 c0 c1 n : Nat) (vL : Value) (L : List S83) (l0 l1 : List S80) : Prop where
 r0 : Kd.R k80 80 wr w.heap.size (fun k_ => some k_ ≠ (Value.slice (some ⟨g1, 0, none⟩) n c1).ownBlock) (.slice (some ⟨g0, 0, none⟩) n c0) l0
 r1 : Kd.R k80 80 wr w.heap.size (fun k_ => some k_ ≠ (Value.slice (some ⟨g0, 0, none⟩) n c0).ownBlock) (.slice (some ⟨g1, 0, none⟩) n c1) l1
 s : Kd.S k83 83 wr w.heap.size (fun _ => True) vL L
 bx : wr.heap[b]? = some (.cells #[.slice (some ⟨g0, 0, none⟩) n c0, .slice (some ⟨g1, 0, none⟩) n c1] 98 (0, 0))
 bl : Below w.heap.size w wr
theorem SeatW.below {w wr w' : World} {b g0 g1 c0 c1 n : Nat} {vL : Value} {L : List S83} {l0 l1 : List S80} (h : SeatW w wr b g0 g1 c0 c1 n vL L l0 l1) (hb : Below wr.heap.size wr w') : SeatW w w' b g0 g1 c0 c1 n vL L l0 l1 :=
 ⟨Kd.R_below h.r0 hb, Kd.R_below h.r1 hb, Kd.S_below h.s hb, (hb.block _ (blk_lt h.bx)).trans h.bx, h.bl.trans (hb.mono h.bl.size)⟩
theorem SeatW.put0 {w wr w' : World} {b g0 g1 c0 c1 n : Nat} {vL : Value} {L : List S83} {l0 l1 l0' : List S80} (h : SeatW w wr b g0 g1 c0 c1 n vL L l0 l1) (hr : Kd.R k80 80 w' w.heap.size (fun k_ => some k_ ≠ (Value.slice (some ⟨g1, 0, none⟩) n c1).ownBlock) (.slice (some ⟨g0, 0, none⟩) n c0) l0') (hg : wr.grownBy w' (some g0)) (hb : Below w.heap.size w w') : SeatW w w' b g0 g1 c0 c1 n vL L l0' l1 :=
 ⟨hr, Kd.R_grown h.r1 hg (fun k hk => hk), Kd.S_over' (v := .slice (some ⟨g0, 0, none⟩) n c0) h.s (Kd.R_typed h.r0) (by decide) hg, blk_grown h.bx hg (Kd.R_ne h.r0 h.bx (by decide)), hb⟩
theorem SeatW.put1 {w wr w' : World} {b g0 g1 c0 c1 n : Nat} {vL : Value} {L : List S83} {l0 l1 l1' : List S80} (h : SeatW w wr b g0 g1 c0 c1 n vL L l0 l1) (hr : Kd.R k80 80 w' w.heap.size (fun k_ => some k_ ≠ (Value.slice (some ⟨g0, 0, none⟩) n c0).ownBlock) (.slice (some ⟨g1, 0, none⟩) n c1) l1') (hg : wr.grownBy w' (some g1)) (hb : Below w.heap.size w w') : SeatW w w' b g0 g1 c0 c1 n vL L l0 l1' :=
 ⟨Kd.R_grown h.r0 hg (fun k hk => hk), hr, Kd.S_over' (v := .slice (some ⟨g1, 0, none⟩) n c1) h.s (Kd.R_typed h.r1) (by decide) hg, blk_grown h.bx hg (Kd.R_ne h.r1 h.bx (by decide)), hb⟩
theorem seat_cells {w : World} {base : Nat} {ok : Nat → Prop} {g n c : Nat} {la : List S80} (h : Kd.R k80 80 w base ok (.slice (some ⟨g, 0, none⟩) n c) la) (i : Int) (h0 : 0 ≤ i) (h1 : i < n) :
  ∀ q u, ([.int .i64 (rd_T80 la i).f0, .int .i64 (rd_T80 la i).f1] : List Value)[q]? = some u → w.cell? ⟨g, i.toNat * 2 + q, none⟩ = some u := by
 obtain ⟨e, _, hC⟩ := Kd.R_reads' h
 obtain ⟨ad, eA, z0, z1⟩ := at_T80 hC i h0 (by omega)
 cases eA
 rw [add_plain] at z0 z1
 intro q u hq
 match q, hq with
 | 0, hq => cases hq; exact z0
 | 1, hq => cases hq; exact z1
set_option maxHeartbeats 8000000 in
set_option maxRecDepth 1000000 in
theorem slots_Seats.calls (H W : Int) (A2 : Option Addr) (c2 : Nat) (bl : List Bool) (A3 : Option Addr) (c3 : Nat) (ri : List Bool) (A4 : Option Addr) (c4 : Nat) (be : List Bool) (r1 r2 : List S80) (w : World)
  (h2 : Kd.C Kd.bool w A2 bl.length bl) (hc2 : bl.length ≤ c2) (h3 : Kd.C Kd.bool w A3 ri.length ri) (hc3 : ri.length ≤ c3) (h4 : Kd.C Kd.bool w A4 be.length be) (hc4 : be.length ≤ c4) (h : slots_Seats.f H W bl ri be = some (r1, r2)) :
  Calls Tryz.prog 39 #[.agg #[.int .i64 H, .int .i64 W, .slice A2 bl.length c2, .slice A3 ri.length c3, .slice A4 be.length c4]] w fun e w' => ∃ v0_ v1_ : Value, e = .returned (.tuple #[v0_, v1_]) ∧ Kd.R k80 80 w' w.heap.size (fun k_ => some k_ ≠ (v1_ : Value).ownBlock) v0_ r1 ∧ Kd.R k80 80 w' w.heap.size (fun k_ => some k_ ≠ (v0_ : Value).ownBlock) v1_ r2 ∧ Below w.heap.size w w' := by
 have hck := grid_Check_eq H W bl ri be (bl.length + 3) (Nat.le_refl _)
 by_cases hok : gcheck H W bl ri be = 0
 ·have hg : GridIs H W A2 c2 bl A3 c3 ri A4 c4 be w := ⟨h2, hc2, h3, hc3, h4, hc4, hok⟩
  have hn : bl.length ≤ 256 := by have := (mul_small (gcheck_ok hok).1 (gcheck_ok hok).2.1).2; have := (gcheck_ok hok).2.2.1; omega
  rw [hok] at hck
  replace hn := Lib.hid hn
  replace hok := Lib.hid hok
  replace hck := Lib.hid hck
  replace h := Lib.hid h
  go_enter Tryz.func39, Tryz.ntmps39
  go_wp2_with (first | (go_at_call 41; refine (grid_Check.calls _ _ _ _ _ _ _ _ _ _ _ _ _ _ (Kd.C_below h2 (below_alloc (Below.refl _ _) _)) hc2 (Kd.C_below h3 (below_alloc (Below.refl _ _) _)) hc3 (Kd.C_below h4 (below_alloc (Below.refl _ _) _)) hc4 hck.out).mono ?_; rintro e w3 ⟨rfl, hb3⟩; have hBK0 : w3.heap[w.heap.size]? = some (.cells #[.int .i64 H, .int .i64 W, .slice A2 bl.length c2, .slice A3 ri.length c3, .slice A4 be.length c4] 24 (0, 0)) := (hb3.block _ (by show _ < (w.heap.push _).size; simp)).trans (new_blk _ _); have hB0 : Below w.heap.size w w3 := (below_alloc (Below.refl _ _) _).trans (hb3.mono (below_alloc (Below.refl _ _) _).size); have hBK1 : (w3.alloc (.cells #[.slice none 0 0, .slice none 0 0] 98 (0, 0))).heap[w.heap.size]? = _ := blk_alloc hBK0 _; have hbx1 : (w3.alloc (.cells #[.slice none 0 0, .slice none 0 0] 98 (0, 0))).heap[w3.heap.size]? = _ := new_blk _ _; have hB1 := below_alloc (o := .cells #[.slice none 0 0, .slice none 0 0] 98 (0, 0)) hB0; have hz0 := (GridBox.of hBK1).2.2.1; have hlt3 := blk_lt hBK0))
  clear hz0 hb3 hBK0
  have hge : w.heap.size ≤ w3.heap.size := hB0.size
  have hlt3 : Hid (w.heap.size < w3.heap.size) := Lib.hid hlt3
  replace hBK1 := Lib.hid hBK1
  replace hbx1 := Lib.hid hbx1
  replace hB1 := Lib.hid hB1
  skip
  go_loopw [16] (fun v16 wr => ∃ (m : Nat) (j : Int) (v0 v1 : Value), v16 = .int .i64 j ∧ Hid (j = m ∧ m ≤ bl.length) ∧ Hid (Kd.R k80 80 wr w.heap.size (fun k_ => True ∧ some k_ ≠ (v1 : Value).ownBlock) v0 (List.replicate m ⟨-1, 0⟩)) ∧ Hid (Kd.R k80 80 wr w.heap.size (fun k_ => True ∧ some k_ ≠ (v0 : Value).ownBlock) v1 (List.replicate m ⟨-1, 0⟩)) ∧ Hid (wr.heap[w.heap.size]? = some (.cells #[.int .i64 H, .int .i64 W, .slice A2 bl.length c2, .slice A3 ri.length c3, .slice A4 be.length c4] 24 (0, 0))) ∧ Hid (wr.heap[w3.heap.size]? = some (.cells #[v0, v1] 98 (0, 0))) ∧ Hid (Below w.heap.size w wr)) (fun v16 _ => bl.length - (intOf v16).toNat)
  case atStart => exact ⟨0, 0, _, _, rfl, Lib.hid ⟨rfl, Nat.zero_le _⟩, Lib.hid (Kd.R_nil _ _ _ _ _), Lib.hid (Kd.R_nil _ _ _ _ _), hBK1, hbx1, hB1⟩
  case round =>
   clear hBK1 hbx1 hB1
   obtain ⟨m, j, v0, v1, rfl, hm, hr0, hr1, hBK, hbx, hB⟩ := hrel
   by_cases hlt : m < bl.length
   ·have tlt : decide (j < (bl.length : Int)) = true := decide_eq_true (by have := hm.out; omega)
    have z0 : wr.cell? ⟨w3.heap.size, 0, none⟩ = some v0 := (blk_cell hbx.out 0).trans rfl
    replace hlt := Lib.hid hlt
    go_wp2_with (first | ((with_reducible refine gate_builtin (b := .append) (xs := #[.tmp 19, .tmp 21]) rfl ?_); go_must (at_builtin; refine Kd.R_append k80 (w0 := w) w.heap.size rfl (.tmp 19) (.tmp 21) 76 80 (.agg #[(.int .i64 0), (.int .i64 0)]) 16 rfl Tryz.underlying76 seat_info rfl (by decide) (by decide) v0 (List.replicate m (⟨-1, 0⟩ : S80)) (⟨-1, 0⟩ : S80) [.int .i64 (-1), .int .i64 0] (fun k_ => True ∧ some k_ ≠ (v1 : Value).ownBlock) (fun _ => False) rfl rfl ?aP (fun _ hk => hk.elim) ?aF ?aO ?aB ?aS ?aL ?_; (case aP => exact k80_mkM _ _ _ (⟨-1, 0⟩ : S80)); (case aF => exact (fun k hk => ⟨trivial, fun e => by have := Kd.R_lt hr1.out k e.symm; omega⟩)); (case aO => exact hr0.out); (case aB => exact hB.out); (case aS => exact (hB.out).size); (case aL => rw [List.length_replicate]; have := hm.out; have := hn.out; omega); intro v4 w4 ho hb hg4 hat; obtain ⟨A4_, n4_, k4_, rfl⟩ := R_slice3 ho; have hbx4 := Lib.hid (blk_grown hbx.out hg4 (Kd.R_ne hr0.out hbx.out (by decide))); have hBK4 := Lib.hid (blk_grown hBK.out hg4 (Kd.R_ne hr0.out hBK.out (by decide))); have y0 : w4.cell? ⟨w3.heap.size, 0, none⟩ = some v0 := (blk_cell hbx4.out 0).trans rfl; have y1 : w4.cell? ⟨w3.heap.size, 1, none⟩ = some v1 := (blk_cell hbx4.out 1).trans rfl; have q0 := blk_frozen hbx4.out 0; have q1 := blk_frozen hbx4.out 1; have hr4 := Lib.hid (Kd.R_set ho hbx4.out (by decide) 0 (.slice A4_ n4_ k4_)); have hr14 := Lib.hid (Kd.R_set (Kd.R_after hr1.out hg4 hat) hbx4.out (by decide) 0 (.slice A4_ n4_ k4_)); have hbx5 := Lib.hid (blk_put (cs' := #[.slice A4_ n4_ k4_, v1]) hbx4.out 0 (.slice A4_ n4_ k4_) rfl); have hBK5 := Lib.hid (blk_far hBK4.out (p := ⟨w3.heap.size, 0, none⟩) (by show w.heap.size ≠ w3.heap.size; have := hlt3.out; omega) (.slice A4_ n4_ k4_)); have hB4 := Lib.hid (below_set (j := 0) (v := .slice A4_ n4_ k4_) hb hge); clear hb hg4 hat ho)) | ((with_reducible refine gate_builtin (b := .append) (xs := #[.tmp 25, .tmp 27]) rfl ?_); go_must (at_builtin; refine R_append_at k80 (w0 := w) w.heap.size w4.heap.size (by simp) (by rfl) (.tmp 25) (.tmp 27) 76 80 (.agg #[(.int .i64 0), (.int .i64 0)]) 16 rfl Tryz.underlying76 seat_info rfl (by decide) (by decide) v1 (List.replicate m (⟨-1, 0⟩ : S80)) (⟨-1, 0⟩ : S80) [.int .i64 (-1), .int .i64 0] (fun k_ => True ∧ some k_ ≠ (Value.slice A4_ n4_ k4_).ownBlock) (fun _ => False) rfl rfl ?aP (fun _ hk => hk.elim) ?aF ?aO ?aB ?aS ?aL ?_; (case aP => exact k80_mkM _ _ _ (⟨-1, 0⟩ : S80)); (case aF => exact (fun k hk => ⟨trivial, fun e => by have := Kd.R_lt hr4.out k e.symm; omega⟩)); (case aO => exact hr14.out); (case aB => exact hB4.out); (case aS => exact (hB4.out).size); (case aL => rw [List.length_replicate]; have := hm.out; have := hn.out; omega); intro v6 w6 ho6 hb6 hg6 hat6; obtain ⟨A6_, n6_, k6_, rfl⟩ := R_slice3 ho6; have hbx6 := Lib.hid (blk_grown hbx5.out hg6 (Kd.R_ne hr14.out hbx5.out (by decide))); have hBK6 := Lib.hid (blk_grown hBK5.out hg6 (Kd.R_ne hr14.out hBK5.out (by decide))); have x0 : w6.cell? ⟨w3.heap.size, 0, none⟩ = some (.slice A4_ n4_ k4_) := (blk_cell hbx6.out 0).trans rfl; have x1 : w6.cell? ⟨w3.heap.size, 1, none⟩ = some v1 := (blk_cell hbx6.out 1).trans rfl; have p0 := blk_frozen hbx6.out 0; have p1 := blk_frozen hbx6.out 1; have hr6 := Lib.hid (Kd.R_set (Kd.R_after hr4.out hg6 hat6) hbx6.out (by decide) 1 (.slice A6_ n6_ k6_)); have hr16 := Lib.hid (Kd.R_set ho6 hbx6.out (by decide) 1 (.slice A6_ n6_ k6_)); have hbx7 := Lib.hid (blk_put (cs' := #[.slice A4_ n4_ k4_, .slice A6_ n6_ k6_]) hbx6.out 1 (.slice A6_ n6_ k6_) rfl); have hBK7 := Lib.hid (blk_far hBK6.out (p := ⟨w3.heap.size, 1, none⟩) (by show w.heap.size ≠ w3.heap.size; have := hlt3.out; omega) (.slice A6_ n6_ k6_)); have hB7 := Lib.hid (below_set (j := 1) (v := .slice A6_ n6_ k6_) hb6 hge); clear hb6 hg6 hat6 ho6)))
    obtain ⟨j2, hj2⟩ : ∃ j2, wrap64 (j + 1) = j2 := ⟨_, rfl⟩
    rw [hj2]
    rw [w64 (by have := hm.out; have := hn.out; omega) (by have := hm.out; have := hn.out; omega)] at hj2
    refine ⟨⟨m + 1, j2, _, _, rfl, Lib.hid ⟨by have := hm.out; omega, hlt.out⟩, ?_, ?_, hBK7, hbx7, hB7⟩, ?_⟩
    ·rw [List.replicate_succ']; exact hr6
    ·rw [List.replicate_succ']; exact hr16
    ·simp only [intOf]; have := hm.out; have := hlt.out; omega
   ·have tlt : decide (j < (bl.length : Int)) = false := decide_eq_false (by have := hm.out; omega)
    have hmb : m = bl.length := by have := hm.out; omega
    subst hmb
    have hn1 : 0 < bl.length := by have := (mul_small (gcheck_ok hok.out).1 (gcheck_ok hok.out).2.1).1; have := (gcheck_ok hok.out).2.2.1; omega
    obtain ⟨g0, c0, rfl⟩ := R_form_n hr0.out (List.length_replicate) hn1
    obtain ⟨g1, c1, rfl⟩ := R_form_n hr1.out (List.length_replicate) hn1
    have hLf := slotsOf_facts hok.out
    obtain ⟨L, hL⟩ : ∃ L, slotsOf H W bl ri be = L := ⟨_, rfl⟩
    have hLs : slots_List.f H W bl ri be = some L := by unfold slots_List.f; rw [hL]
    have hfin : seatS (L.drop 0) 0 (List.replicate bl.length ⟨-1, 0⟩, List.replicate bl.length ⟨-1, 0⟩) = (r1, r2) := by
     have := h.out
     unfold slots_Seats.f seatsOf at this
     rw [if_pos hok.out, hL] at this
     exact Option.some.inj this
    rw [hL] at hLf
    replace hL := Lib.hid hL
    replace hLs := Lib.hid hLs
    replace hfin := Lib.hid hfin
    replace hLf := Lib.hid hLf
    clear hlt
    replace hn1 := Lib.hid hn1
    have hb0 := (GridBox.of hBK.out).1
    have hb1 := (GridBox.of hBK.out).2.1
    have hb2 := (GridBox.of hBK.out).2.2.1
    have hb3 := (GridBox.of hBK.out).2.2.2.1
    have hb4 := (GridBox.of hBK.out).2.2.2.2
    go_wp2_with (go_at_call 40; go_loud (refine (slots_List.calls _ _ _ _ _ _ _ _ _ _ _ _ _ (Kd.C_below h2 hB.out) hc2 (Kd.C_below h3 hB.out) hc3 (Kd.C_below h4 hB.out) hc4 hLs.out).mono ?_; rintro e w5 ⟨vL, rfl, hLr, hb5⟩; obtain ⟨AL, cL, rfl⟩ := Kd.S_slice hLr))
    have hSW0 : SeatW w w5 w3.heap.size g0 g1 c0 c1 bl.length (.slice AL L.length cL) L (List.replicate bl.length ⟨-1, 0⟩) (List.replicate bl.length ⟨-1, 0⟩) :=
     ⟨Kd.R_below (Kd.R_mono hr0.out (fun _ hk => hk.2)) hb5, Kd.R_below (Kd.R_mono hr1.out (fun _ hk => hk.2)) hb5, Kd.S_lower hLr hB.out.size, (hb5.block _ (blk_lt hbx.out)).trans hbx.out, hB.out.trans (hb5.mono hB.out.size)⟩
    replace hSW0 := Lib.hid hSW0
    clear hb0 hb1 hb2 hb3 hb4 hr0 hr1 hBK hbx hB hb5 hLr
    go_loopw [34] (fun v34 wr => ∃ (m : Nat) (j : Int) (l0 l1 : List S80), v34 = .int .i64 j ∧ Hid (j = m ∧ m ≤ L.length) ∧ Hid (seatS (L.drop m) m (l0, l1) = (r1, r2)) ∧ Hid (l0.length = bl.length ∧ l1.length = bl.length) ∧ Hid (SeatW w wr w3.heap.size g0 g1 c0 c1 bl.length (.slice AL L.length cL) L l0 l1)) (fun v34 _ => L.length - (intOf v34).toNat)
    case atStart => exact ⟨0, 0, _, _, rfl, Lib.hid ⟨rfl, Nat.zero_le _⟩, hfin, Lib.hid ⟨List.length_replicate, List.length_replicate⟩, hSW0⟩
    case round =>
     clear hSW0 hfin
     obtain ⟨m, j, l0, l1, rfl, hj, hss, hll, hSW⟩ := hrel
     by_cases hlt : m < L.length
     ·have tlt : decide (j < (L.length : Int)) = true := decide_eq_true (by have := hj.out; omega)
      have hj0 : 0 ≤ j := by have := hj.out; omega
      have hj1 : j < (L.length : Int) := by have := hj.out; omega
      obtain ⟨ad, ecs, eA, zz⟩ : ∃ (ad : Addr) (cs : List Value), AL = some ad ∧ cs.length = 3 ∧ Kd.M k83 wr w.heap.size (fun _ => True) (rd_T83 L j) cs ∧ ∀ q u, cs[q]? = some u → wr.cell? (ad.add (j.toNat * 3 + q)) = some u := by
       cases AL with
       | none => have := (Kd.S_reads' hSW.out.s).2.2.2.2 (by omega); obtain ⟨ad, e, _⟩ := this; cases e
       | some ad => obtain ⟨c, h1, h2, h3⟩ := Kd.S_get hSW.out.s z83 j hj0 hj1; exact ⟨ad, c, rfl, h1, k83.M_mono (fun _ _ => trivial) h2, h3⟩
      subst eA
      obtain ⟨hcl, hM, hcc⟩ := zz
      obtain ⟨v2, rfl, hRc⟩ := k83_openM hM
      obtain ⟨A2, c2', rfl⟩ := Kd.R_slice hRc
      have z0 : wr.cell? (ad.add (j.toNat * 3)) = some (.int .i64 (rd_T83 L j).f0) := hcc 0 _ rfl
      have z1 : wr.cell? ⟨(ad.add (j.toNat * 3)).block, (ad.add (j.toNat * 3)).off + 1, none⟩ = some (.bool (rd_T83 L j).f1) := by rw [← add_field _ _ 1 (by omega)]; exact hcc 1 _ rfl
      have z2 : wr.cell? ⟨(ad.add (j.toNat * 3)).block, (ad.add (j.toNat * 3)).off + 2, none⟩ = some (.slice A2 (rd_T83 L j).f2.length c2') := by rw [← add_field _ _ 2 (by omega)]; exact hcc 2 _ rfl
      have hjm : rd_T83 L j ∈ L := by rw [hj.out.1]; exact mem_rd hlt
      replace hjm := Lib.hid hjm
      replace hRc := Lib.hid hRc
      clear hcl hM hcc
      replace hlt := Lib.hid hlt
      cases hdn : (rd_T83 L j).f1 with
      | false =>
       rw [hdn] at z1
       replace hdn := Lib.hid hdn
       go_wp2
       go_hide hQ
       go_loopw [44] (fun v44 wi => ∃ (k : Nat) (q : Int) (la : List S80), v44 = .int .i64 q ∧ Hid (q = k ∧ k ≤ (rd_T83 L j).f2.length) ∧ Hid (seatCells (j : Int) ((rd_T83 L j).f2.drop k) k la = seatCells (j : Int) (rd_T83 L j).f2 0 l0) ∧ Hid (la.length = bl.length) ∧ Hid (Kd.R (Kd.int .i64) 3 wi w.heap.size (fun _ => True) (.slice A2 (rd_T83 L j).f2.length c2') (rd_T83 L j).f2) ∧ Hid (SeatW w wi w3.heap.size g0 g1 c0 c1 bl.length (.slice (some ad) L.length cL) L la l1)) (fun v44 _ => (rd_T83 L j).f2.length - (intOf v44).toNat)
       case atStart => exact ⟨0, 0, l0, rfl, Lib.hid ⟨rfl, Nat.zero_le _⟩, Lib.hid (by rw [List.drop_zero]), Lib.hid hll.out.1, Lib.hid (Kd.R_alloc hRc.out _), Lib.hid (hSW.out.below (below_alloc (Below.refl _ _) _))⟩
       case round =>
        obtain ⟨k, q, la, rfl, hk, hsc, hla, hRi, hSi⟩ := hrel
        by_cases hkl : k < (rd_T83 L j).f2.length
        ·have tk : decide (q < ((rd_T83 L j).f2.length : Int)) = true := decide_eq_true (by have := hk.out; omega)
         have hq0 : 0 ≤ q := by have := hk.out; omega
         have hq1 : q < ((rd_T83 L j).f2.length : Int) := by have := hk.out; omega
         obtain ⟨adc, eA, zc⟩ := Kd.at_int (Kd.R_reads' hRi.out).2.2 q hq0 hq1
         cases eA
         have y0 : wr.cell? ⟨w3.heap.size, 0, none⟩ = some (.slice (some ⟨g0, 0, none⟩) bl.length c0) := (blk_cell hSi.out.bx 0).trans rfl
         have y1 : wr.cell? ⟨w3.heap.size, 1, none⟩ = some (.slice (some ⟨g1, 0, none⟩) bl.length c1) := (blk_cell hSi.out.bx 1).trans rfl
         have hci : 0 ≤ rd (rd_T83 L j).f2 q ∧ rd (rd_T83 L j).f2 q < bl.length := by
          rw [hk.out.1]; exact (hLf.out.2 _ hjm.out).2 _ (mem_rdI hkl)
         obtain ⟨ci, hcid⟩ : ∃ ci, rd (rd_T83 L j).f2 q = ci := ⟨_, rfl⟩
         rw [hcid] at zc hci
         obtain ⟨hci0, hci1⟩ := hci
         have tc0 : decide (0 ≤ ci) = true := decide_eq_true hci0
         have tc1 : decide (ci < (bl.length : Int)) = true := decide_eq_true hci1
         replace hcid := Lib.hid hcid
         replace hkl := Lib.hid hkl
         have hcc := seat_cells hSi.out.r0 ci hci0 hci1
         replace hcc := Lib.hid hcc
         go_wp2_with (((with_reducible refine gate_ (.store 80 (.tmp 56) (.tmp 55)) rfl ?_); go_must (refine Kd.R_store k80 (w0 := w) w.heap.size (by rfl) (by rfl) 80 (.tmp 56) (.tmp 55) (by rfl) 80 ci 0 la (⟨j, q⟩ : S80) (.agg #[.int .i64 j, .int .i64 q]) [.int .i64 j, .int .i64 q] [.int .i64 (rd_T80 la ci).f0, .int .i64 (rd_T80 la ci).f1] (fun k_ => some k_ ≠ (Value.slice (some ⟨g1, 0, none⟩) bl.length c1).ownBlock) (fun _ => False) (o' := ci.toNat * 2) (by rfl) (by rfl) (by rfl) (by rfl) (by kernel_rfl) (by simp [Value.oneCell']) hSi.out.r0 hci0 hci1 (by rfl) hcc.out (Nat.le_refl 2) (k80_mkM _ _ _ (⟨j, q⟩ : S80)) (fun _ hk => hk.elim) hSi.out.bl ?_; intro w7 hr7 hb7 hg7; have hS7 := Lib.hid (hSi.out.put0 hr7 hg7 hb7); have hc7 := Lib.hid (Kd.R_over' (v := .slice (some ⟨g0, 0, none⟩) bl.length c0) hRi.out (Kd.R_typed hSi.out.r0) (by decide) hg7); clear hr7 hb7 hg7)))
         obtain ⟨q2, hq2⟩ : ∃ q2, wrap64 (q + 1) = q2 := ⟨_, rfl⟩
         rw [hq2]
         rw [w64 (by omega) (by have := (hLf.out.2 _ hjm.out).1; have := hn.out; omega)] at hq2
         refine ⟨⟨k + 1, q2, _, rfl, Lib.hid ⟨by have := hk.out; omega, hkl.out⟩, Lib.hid ?_, Lib.hid ?_, hc7, hS7⟩, ?_⟩
         ·rw [← hsc.out, drop_rdI hkl.out, ← hk.out.1, hcid.out]
          simp only [seatCells]
          rw [← hk.out.1]
         ·rw [List.length_set]; exact hla.out
         ·simp only [intOf]; have := hk.out; have := hkl.out; omega
        ·have tk : decide (q < ((rd_T83 L j).f2.length : Int)) = false := decide_eq_false (by have := hk.out; omega)
         have hkE : k = (rd_T83 L j).f2.length := by have := hk.out; omega
         have hsE := hsc.out
         rw [hkE, List.drop_length] at hsE
         simp only [seatCells] at hsE
         replace hsE := Lib.hid hsE
         go_wp2
         subst hQ
         go_wp2
         obtain ⟨j2, hj2⟩ : ∃ j2, wrap64 (j + 1) = j2 := ⟨_, rfl⟩
         rw [hj2]
         rw [w64 (by omega) (by have := hLf.out.1; have := hn.out; omega)] at hj2
         refine ⟨⟨m + 1, j2, _, _, rfl, Lib.hid ⟨by have := hj.out; omega, hlt.out⟩, Lib.hid ?_, Lib.hid ⟨hla.out, hll.out.2⟩, hSi⟩, ?_⟩
         ·rw [← hss.out, drop_rd hlt.out, ← hj.out.1]
          simp only [seatS]
          rw [hdn.out, hsE.out, hj.out.1]
          rfl
         ·simp only [intOf]; have := hj.out; have := hlt.out; omega
      | true =>
       rw [hdn] at z1
       replace hdn := Lib.hid hdn
       go_wp2
       go_hide hQ
       go_loopw [44] (fun v44 wi => ∃ (k : Nat) (q : Int) (la : List S80), v44 = .int .i64 q ∧ Hid (q = k ∧ k ≤ (rd_T83 L j).f2.length) ∧ Hid (seatCells (j : Int) ((rd_T83 L j).f2.drop k) k la = seatCells (j : Int) (rd_T83 L j).f2 0 l1) ∧ Hid (la.length = bl.length) ∧ Hid (Kd.R (Kd.int .i64) 3 wi w.heap.size (fun _ => True) (.slice A2 (rd_T83 L j).f2.length c2') (rd_T83 L j).f2) ∧ Hid (SeatW w wi w3.heap.size g0 g1 c0 c1 bl.length (.slice (some ad) L.length cL) L l0 la)) (fun v44 _ => (rd_T83 L j).f2.length - (intOf v44).toNat)
       case atStart => exact ⟨0, 0, l1, rfl, Lib.hid ⟨rfl, Nat.zero_le _⟩, Lib.hid (by rw [List.drop_zero]), Lib.hid hll.out.2, Lib.hid (Kd.R_alloc hRc.out _), Lib.hid (hSW.out.below (below_alloc (Below.refl _ _) _))⟩
       case round =>
        obtain ⟨k, q, la, rfl, hk, hsc, hla, hRi, hSi⟩ := hrel
        by_cases hkl : k < (rd_T83 L j).f2.length
        ·have tk : decide (q < ((rd_T83 L j).f2.length : Int)) = true := decide_eq_true (by have := hk.out; omega)
         have hq0 : 0 ≤ q := by have := hk.out; omega
         have hq1 : q < ((rd_T83 L j).f2.length : Int) := by have := hk.out; omega
         obtain ⟨adc, eA, zc⟩ := Kd.at_int (Kd.R_reads' hRi.out).2.2 q hq0 hq1
         cases eA
         have y0 : wr.cell? ⟨w3.heap.size, 0, none⟩ = some (.slice (some ⟨g0, 0, none⟩) bl.length c0) := (blk_cell hSi.out.bx 0).trans rfl
         have y1 : wr.cell? ⟨w3.heap.size, 1, none⟩ = some (.slice (some ⟨g1, 0, none⟩) bl.length c1) := (blk_cell hSi.out.bx 1).trans rfl
         have hci : 0 ≤ rd (rd_T83 L j).f2 q ∧ rd (rd_T83 L j).f2 q < bl.length := by
          rw [hk.out.1]; exact (hLf.out.2 _ hjm.out).2 _ (mem_rdI hkl)
         obtain ⟨ci, hcid⟩ : ∃ ci, rd (rd_T83 L j).f2 q = ci := ⟨_, rfl⟩
         rw [hcid] at zc hci
         obtain ⟨hci0, hci1⟩ := hci
         have tc0 : decide (0 ≤ ci) = true := decide_eq_true hci0
         have tc1 : decide (ci < (bl.length : Int)) = true := decide_eq_true hci1
         replace hcid := Lib.hid hcid
         replace hkl := Lib.hid hkl
         have hcc := seat_cells hSi.out.r1 ci hci0 hci1
         replace hcc := Lib.hid hcc
         go_wp2_with (((with_reducible refine gate_ (.store 80 (.tmp 56) (.tmp 55)) rfl ?_); go_must (refine Kd.R_store k80 (w0 := w) w.heap.size (by rfl) (by rfl) 80 (.tmp 56) (.tmp 55) (by rfl) 80 ci 0 la (⟨j, q⟩ : S80) (.agg #[.int .i64 j, .int .i64 q]) [.int .i64 j, .int .i64 q] [.int .i64 (rd_T80 la ci).f0, .int .i64 (rd_T80 la ci).f1] (fun k_ => some k_ ≠ (Value.slice (some ⟨g0, 0, none⟩) bl.length c0).ownBlock) (fun _ => False) (o' := ci.toNat * 2) (by rfl) (by rfl) (by rfl) (by rfl) (by kernel_rfl) (by simp [Value.oneCell']) hSi.out.r1 hci0 hci1 (by rfl) hcc.out (Nat.le_refl 2) (k80_mkM _ _ _ (⟨j, q⟩ : S80)) (fun _ hk => hk.elim) hSi.out.bl ?_; intro w7 hr7 hb7 hg7; have hS7 := Lib.hid (hSi.out.put1 hr7 hg7 hb7); have hc7 := Lib.hid (Kd.R_over' (v := .slice (some ⟨g1, 0, none⟩) bl.length c1) hRi.out (Kd.R_typed hSi.out.r1) (by decide) hg7); clear hr7 hb7 hg7)))
         obtain ⟨q2, hq2⟩ : ∃ q2, wrap64 (q + 1) = q2 := ⟨_, rfl⟩
         rw [hq2]
         rw [w64 (by omega) (by have := (hLf.out.2 _ hjm.out).1; have := hn.out; omega)] at hq2
         refine ⟨⟨k + 1, q2, _, rfl, Lib.hid ⟨by have := hk.out; omega, hkl.out⟩, Lib.hid ?_, Lib.hid ?_, hc7, hS7⟩, ?_⟩
         ·rw [← hsc.out, drop_rdI hkl.out, ← hk.out.1, hcid.out]
          simp only [seatCells]
          rw [← hk.out.1]
         ·rw [List.length_set]; exact hla.out
         ·simp only [intOf]; have := hk.out; have := hkl.out; omega
        ·have tk : decide (q < ((rd_T83 L j).f2.length : Int)) = false := decide_eq_false (by have := hk.out; omega)
         have hkE : k = (rd_T83 L j).f2.length := by have := hk.out; omega
         have hsE := hsc.out
         rw [hkE, List.drop_length] at hsE
         simp only [seatCells] at hsE
         replace hsE := Lib.hid hsE
         go_wp2
         subst hQ
         go_wp2
         obtain ⟨j2, hj2⟩ : ∃ j2, wrap64 (j + 1) = j2 := ⟨_, rfl⟩
         rw [hj2]
         rw [w64 (by omega) (by have := hLf.out.1; have := hn.out; omega)] at hj2
         refine ⟨⟨m + 1, j2, _, _, rfl, Lib.hid ⟨by have := hj.out; omega, hlt.out⟩, Lib.hid ?_, Lib.hid ⟨hll.out.1, hla.out⟩, hSi⟩, ?_⟩
         ·rw [← hss.out, drop_rd hlt.out, ← hj.out.1]
          simp only [seatS]
          rw [hdn.out, hsE.out, hj.out.1]
          rfl
         ·simp only [intOf]; have := hj.out; have := hlt.out; omega
     ·have tlt : decide (j < (L.length : Int)) = false := decide_eq_false (by have := hj.out; omega)
      have hmE : m = L.length := by have := hj.out; omega
      have hsE := hss.out
      rw [hmE, List.drop_length] at hsE
      simp only [seatS, Prod.mk.injEq] at hsE
      obtain ⟨rfl, rfl⟩ := hsE
      have y0 : wr.cell? ⟨w3.heap.size, 0, none⟩ = some (.slice (some ⟨g0, 0, none⟩) bl.length c0) := (blk_cell hSW.out.bx 0).trans rfl
      have y1 : wr.cell? ⟨w3.heap.size, 1, none⟩ = some (.slice (some ⟨g1, 0, none⟩) bl.length c1) := (blk_cell hSW.out.bx 1).trans rfl
      go_wp2
      go_quiet (fail)
      go_wp2
      go_ret2
      exact ⟨_, _, rfl, Kd.R_drewN hSW.out.r0 _, Kd.R_drewN hSW.out.r1 _, pw_below_drewN hSW.out.bl _⟩
 ·have hrr : r1 = [] ∧ r2 = [] := by
   unfold slots_Seats.f seatsOf at h
   rw [if_neg hok] at h
   simp only [Option.some.injEq, Prod.mk.injEq] at h
   exact ⟨h.1.symm, h.2.symm⟩
  obtain ⟨rfl, rfl⟩ := hrr
  clear h
  obtain ⟨er, her⟩ : ∃ e, gcheck H W bl ri be = e := ⟨_, rfl⟩
  rw [her] at hck hok
  have hne : (er != 0) = true := bne_iff_ne.2 hok
  replace hck := Lib.hid hck
  replace her := Lib.hid her
  go_enter Tryz.func39, Tryz.ntmps39
  go_wp2_with (first | (go_at_call 41; refine (grid_Check.calls _ _ _ _ _ _ _ _ _ _ _ _ _ _ (Kd.C_below h2 (below_alloc (Below.refl _ _) _)) hc2 (Kd.C_below h3 (below_alloc (Below.refl _ _) _)) hc3 (Kd.C_below h4 (below_alloc (Below.refl _ _) _)) hc4 hck.out).mono ?_; rintro e w3 ⟨rfl, hb3⟩))
  go_ret2
  exact ⟨_, _, rfl, Kd.R_nil _ _ _ _ _, Kd.R_nil _ _ _ _ _, (below_alloc (Below.refl _ _) _).trans (hb3.mono (below_alloc (Below.refl _ _) _).size)⟩
end Go.Proofs.YtiipailmldbpbaaGreatDoor.Q
end
