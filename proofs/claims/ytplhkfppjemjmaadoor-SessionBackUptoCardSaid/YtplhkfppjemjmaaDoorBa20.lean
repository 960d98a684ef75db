/-
  SessionBack, WHERE WHAT IT READS IS OF BULK AT MOST 1048576: IT RETURNS true (all acts taken back, the sheet is the first one; all done again, it is the last one), AND ITS ARGUMENTS READ AS THEY DID. The card ties utf8's two tables to the program's text.
-/
import Derived.Test.YtplhkfppjemjmaaDoorCards
import Derived.Test.YtplhkfppjemjmaaDoorTie
import Derived.Test.YtplhkfppjemjmaaDoorBa16
import Derived.Test.YtplhkfppjemjmaaDoorBa19
set_option linter.unusedVariables false
set_option linter.unusedSimpArgs false
namespace Go.Proofs.YtplhkfppjemjmaaDoor.back
open Go.ChangeShapes Go.WideShapes Go.ChangeAt Go.RowKit Go.Joins
open Go.Proofs.YtplhkfppjemjmaaDoor.Q Go.Proofs.YtplhkfppjemjmaaDoorS
set_option maxRecDepth 100000
def wArgs : Array Value := #[.agg #[.string ⟨#[]⟩, .int .i64 0, .int .i64 0, .slice none 0 0, .slice none 0 0, .slice none 0 0, .slice none 0 0, .slice none 0 0], .slice none 0 0]
def wData {H : Type} : List (DataW H) := [.agg [.lit (.string []), .agg [.lit (.int .i64 0), .lit (.int .i64 0), .nil, .nil, .nil], .nil, .nil], .nil]
theorem laid_met (os : Os) : laidMet Tryd.prog Rows.sessionBackUptoRow.laid ((laidWorld os).forCall (fun _ _ => 0) ⟨#[], wArgs, []⟩).memory :=
  laidMet_of_run' 8 (by kernel_rfl) (by kernel_rfl)
theorem reads (os : Os) {H : Type} (enc : TypeId × Value → H) : ∃ places, DataW.whole enc Tryd.prog ((laidWorld os).forCall (fun _ _ => 0) ⟨#[], wArgs, []⟩).memory Tryd.f3.params.toList Rows.sessionBackSpec.vars false wArgs.toList 8 = some (wData, [], places) :=
  ⟨[], by kernel_rfl⟩
theorem contract (H : Type) (enc : TypeId × Value → H) (W : World) (base : Nat) (args : Array Value) (ds gs : List (DataW H)) (before : List MemPlace)
    (hval : ∀ (j : Nat) t v, Tryd.f3.params[j]? = some t → args[j]? = some v → Value.okWide Tryd.prog W .any base t v)
    (hW : DataW.Whole enc Tryd.prog Tryd.f3.params.toList Rows.sessionBackSpec.vars false W args.toList ds gs before) (hL : laidMetH Tryd.prog Rows.sessionBackUptoRow.laid W) (hk : Rows.uptoSmall H (ds ++ gs) = true) :
    Calls Tryd.prog 3 args W fun e W' => ∃ v, e = .returned v ∧ Rows.sessionBackSpec.post enc Tryd.prog Tryd.f3 false true false false W args v W' := by
  have hW' := hW
  obtain ⟨p, q, hA0, hV, rfl, hfz, hnd⟩ := hW
  have hA : DataW.TrodAll enc Tryd.prog W 0 (fun _ => true) true Tryd.f3.params.toList args.toList ds p := hA0
  rw [Tryd.params3] at hA hval
  obtain ⟨v0, v1, d0, d1, p0, p1, rfl, rfl, rfl, h0, h1⟩ := trodAll_two hA
  obtain ⟨rfl, rfl⟩ := trodVars_none hV
  simp only [List.append_nil] at hk
  have hb := bulk_bound hk
  simp only [Rows.uptoBulkAll] at hb
  obtain ⟨title, Hh, Ww, A2, c2, bl, A3, c3, ri, A4, c4, be, A5, c5, cells, A6, c6, clues, rfl, hP, hz⟩ := open_puzzle (hval 0 27 v0 rfl rfl) h0
  obtain ⟨A9, c9, acts, rfl, hA9, ha⟩ := open_acts2 (hval 1 28 v1 rfl rfl) h1
  refine (SessionBack.calls (tabs_of_laid hL) hP hA9 (hz (by omega)).1 (hz (by omega)).2.1 (hz (by omega)).2.2.1 (hz (by omega)).2.2.2 (ha (by omega)).1 (ha (by omega)).2).mono fun e W' ⟨he, hbel⟩ => ?_
  subst he
  have hlt : ∀ x ∈ p0 ++ (p1), x.block < W.heap.size := fun x hx => hW'.lt x (by simpa using hx)
  refine ⟨_, rfl, post_of_below (pa := p0 ++ (p1)) (pv := []) hW' (fun _ _ _ => trodAll_mk1 (shut_bool Tryd.underlying4 true)) (fun sp hsp => ?_) (fun _ _ => rfl) (by simp) hbel (ok_one (by kernel_rfl) rfl (okWide_bool_mk Tryd.underlying4 _))⟩
  have stay : ∀ {t : TypeId} {v : Value} {d : DataW H} {ps : List MemPlace}, Tryd.prog.readableRec t = true → t < Tryd.prog.types.size → DataW.Trod enc Tryd.prog W 0 (fun _ => true) true t v d ps → (∀ x ∈ ps, x ∈ p0 ++ (p1)) → DataW.Trod enc Tryd.prog W' 0 sp true t v d ps := fun hr hrow h hin =>
    WideElems.Trod_stays laid_out hr hrow h (fun x hx => hbel.same (hlt x (hin x hx))) (fun x hx => hsp x (by simpa using hin x hx))
  exact trodAll_mk2 (stay (by kernel_rfl) (of_decide_eq_true (by kernel_rfl)) h0 (fun x hx => List.mem_append_left _ hx)) (stay (by kernel_rfl) (of_decide_eq_true (by kernel_rfl)) h1 (fun x hx => List.mem_append_right _ (hx)))
theorem liftedUpto (os : Os) (started : os.Started) (H : Type) (enc : TypeId × Value → H) (F : Stop.Interp) :
    ReturnsInHanded {} Tryd.checked os 3 .any ((Rows.OpenSpec.upto Rows.sessionBackSpec).preRow enc Tryd.prog Tryd.f3 Rows.sessionBackUptoRow.domain false Rows.sessionBackUptoRow.laid) (((Rows.OpenSpec.upto Rows.sessionBackSpec).at F).post enc Tryd.prog Tryd.f3 false true false false) := by
  obtain ⟨places, hx⟩ := reads os enc
  refine returnsInHanded_of_row (C := Tryd.checked) (s := Rows.OpenSpec.upto Rows.sessionBackSpec) own_knob started (by kernel_rfl) Tryd.func3
    (witness_row_at (enc := enc) (C := Tryd.checked) false (laidWorld os) wArgs rfl (by kernel_rfl) (by kernel_rfl) (by kernel_rfl)
      (OpenSpec.preRow_of_cond 8 hx (by kernel_rfl) (fun k hk => by cases hk; kernel_rfl) (by kernel_rfl) (laid_met os))) ?_
  intro W base args ds gs before hval hW _ hcond _ hL _ _
  exact contract H enc W base args ds gs before hval hW hL (hcond _ rfl)
theorem saidUpto : Rows.SessionBackUptoSaid :=
  OpenClaim.holds_of_cond 3 Tryd.f3 rfl rfl rfl rfl rfl rfl rfl ⟨rfl, rfl, rfl, rfl, rfl⟩ rfl rfl rfl rfl rfl (by kernel_rfl) Tryd.func3 (by kernel_rfl)
    (of_decide_eq_true (by kernel_rfl)) (by unfold Func.isWrapper; first | (rw [if_pos (by decide +kernel)]; kernel_rfl) | (rw [if_neg (by decide +kernel)]; exact ⟨rfl, rfl⟩))
    (fun os started H enc _ F => by rw [OpenClaim.pre_eq_preRow]; exact liftedUpto os started H enc F)
theorem plain (f : FuncId) (fn : Func) (hf : Tryd.pinned.checked.prog.funcNamed "rebus/rebuslaw24.SessionBack" = some f) (hfn : Tryd.pinned.checked.prog.funcs[f]? = some fn) :
    false = Tryd.pinned.checked.prog.looks [] ∧ ∀ (j : Nat) t, fn.params[j]? = some t → Tryd.pinned.checked.prog.wantsStandIn t = false := by
  obtain rfl : f = 3 := Option.some.inj ((show Tryd.prog.funcNamed "rebus/rebuslaw24.SessionBack" = some 3 by kernel_rfl).symm.trans hf) |>.symm
  obtain rfl : fn = Tryd.f3 := (Option.some.inj (Tryd.func3.symm.trans hfn)).symm
  refine ⟨by kernel_rfl, fun j t ht => ?_⟩
  rw [Tryd.params3] at ht
  have hm : t ∈ #[27, 28] := Array.mem_of_getElem? ht
  simp only [List.mem_toArray, List.mem_cons, List.not_mem_nil, or_false] at hm
  rcases hm with rfl | rfl
  · exact (show Tryd.prog.wantsStandIn 27 = false by kernel_rfl)
  · exact (show Tryd.prog.wantsStandIn 28 = false by kernel_rfl)
theorem cardUpto : Rows.SessionBackUptoCardSaid :=
  Claim7.holds_tied_plain_at .later [] _ _ _ _ saidUpto (fun _ h => by cases h) (by kernel_rfl) (fun _ h => by cases h) sessionBackUpto_row_tie rfl ⟨rfl, rfl⟩ (by kernel_rfl) rfl plain (by kernel_rfl)
end Go.Proofs.YtplhkfppjemjmaaDoor.back
#print axioms Go.Proofs.YtplhkfppjemjmaaDoor.back.cardUpto
