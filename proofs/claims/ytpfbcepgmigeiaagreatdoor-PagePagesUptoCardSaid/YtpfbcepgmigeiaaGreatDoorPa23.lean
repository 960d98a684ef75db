/-
  PagePages, WHERE WHAT IT READS IS OF BULK AT MOST 1048576: IT RETURNS true (Clues and Page of any puzzle and width are the document's), AND ITS ARGUMENTS READ AS THEY DID. The card ties utf8's two tables to the program's text.
-/
import Derived.Test.YtpfbcepgmigeiaaGreatDoorCards
import Derived.Test.YtpfbcepgmigeiaaGreatDoorTie
import Derived.Test.YtpfbcepgmigeiaaGreatDoorPa8
import Derived.Test.YtpfbcepgmigeiaaGreatDoorPa22
set_option linter.unusedVariables false
set_option linter.unusedSimpArgs false
namespace Go.Proofs.YtpfbcepgmigeiaaGreatDoor.pages
open Go.ChangeShapes Go.WideShapes Go.ChangeAt Go.RowKit Go.Joins
open Go.Proofs.YtpfbcepgmigeiaaGreatDoor.Q Go.Proofs.YtpfbcepgmigeiaaGreatDoorS
set_option maxRecDepth 100000
def wArgs : Array Value:=#[.agg #[.string ⟨#[]⟩,.int .i64 0,.int .i64 0,.slice none 0 0,.slice none 0 0,.slice none 0 0,.slice none 0 0,.slice none 0 0],.bool false,.int .i64 0]
def wData {H : Type} : List (DataW H):=[.agg [.lit (.string []),.agg [.lit (.int .i64 0),.lit (.int .i64 0),.nil,.nil,.nil],.nil,.nil],.lit (.bool false),.lit (.int .i64 0)]
theorem laid_met (os : Os) : laidMet Tryz.prog Rows.pagePagesUptoRow.laid ((laidWorld os).forCall (fun _ _=>0) ⟨#[],wArgs,[]⟩).memory :=
  laidMet_of_run' 8 (by kernel_rfl) (by kernel_rfl)
theorem reads (os : Os) {H : Type} (enc : TypeId × Value → H) : ∃ places,DataW.whole enc Tryz.prog ((laidWorld os).forCall (fun _ _=>0) ⟨#[],wArgs,[]⟩).memory Tryz.f3.params.toList Rows.pagePagesSpec.vars false wArgs.toList 8 = some (wData,[],places) :=
  ⟨[],by kernel_rfl⟩
theorem contract (H : Type) (enc : TypeId × Value → H) (W : World) (base : Nat) (args : Array Value) (ds gs : List (DataW H)) (before : List MemPlace)
    (hval : ∀ (j : Nat) t v,Tryz.f3.params[j]? = some t → args[j]? = some v → Value.okWide Tryz.prog W .any base t v)
    (hW : DataW.Whole enc Tryz.prog Tryz.f3.params.toList Rows.pagePagesSpec.vars false W args.toList ds gs before) (hL : laidMetH Tryz.prog Rows.pagePagesUptoRow.laid W) (hSh : W.ShapedOpen Tryz.prog) (hk : Rows.uptoSmall H (ds ++ gs) = true) :
    Calls Tryz.prog 3 args W fun e W'=>∃ v,e = .returned v ∧ Rows.pagePagesSpec.post enc Tryz.prog Tryz.f3 false true false false W args v W':=by
  have hW':=hW
  obtain ⟨p,q,hA0,hV,rfl,hfz,hnd⟩:=hW
  have hA : DataW.TrodAll enc Tryz.prog W 0 (fun _=>true) true Tryz.f3.params.toList args.toList ds p:=hA0
  rw [Tryz.params3] at hA hval
  obtain ⟨v0,v1,v2,d0,d1,d2,p0,p1,p2,rfl,rfl,rfl,h0,h1,h2⟩:=trodAll_three hA
  obtain ⟨rfl,rfl⟩:=trodVars_none hV
  simp only [List.append_nil] at hk
  have hb:=bulk_bound hk
  simp only [Rows.uptoBulkAll] at hb
  obtain ⟨title,Hh,Ww,A2,c2,bl,A3,c3,ri,A4,c4,be,A5,c5,cells,A6,c6,clues,rfl,hP,hz⟩:=open_puzzle (hval 0 27 v0 rfl rfl) h0
  obtain ⟨bb,rfl,rfl,rfl⟩:=Go.RowKit.open_bool Tryz.underlying4 (hval 1 4 v1 rfl rfl) h1
  obtain ⟨nn,rfl,rfl,rfl,hnn⟩:=Go.ChangeShapes.open_int Tryz.underlying3 (hval 2 3 v2 rfl rfl) h2
  refine (PagePages.calls (tabs_of_laid hL hSh) hP (hz (by omega)).1 (hz (by omega)).2.1 (hz (by omega)).2.2.1 (hz (by omega)).2.2.2 bb nn).mono fun e W' ⟨he,hbel⟩=>?_
  subst he
  have hlt : ∀ x ∈ p0 ++ ([] ++ ([])),x.block < W.heap.size:=fun x hx=>hW'.lt x (by simpa using hx)
  refine ⟨_,rfl,post_of_below (pa:=p0 ++ ([] ++ ([]))) (pv:=[]) hW' (fun _ _ _=>trodAll_mk1 (shut_bool Tryz.underlying4 true)) (fun sp hsp=>?_) (fun _ _=>rfl) (by simp) hbel (ok_one (by kernel_rfl) rfl (okWide_bool_mk Tryz.underlying4 _))⟩
  have stay : ∀ {t : TypeId} {v : Value} {d : DataW H} {ps : List MemPlace},Tryz.prog.readableRec t = true → t < Tryz.prog.types.size → DataW.Trod enc Tryz.prog W 0 (fun _=>true) true t v d ps → (∀ x ∈ ps,x ∈ p0 ++ ([] ++ ([]))) → DataW.Trod enc Tryz.prog W' 0 sp true t v d ps:=fun hr hrow h hin =>
    WideElems.Trod_stays laid_out hr hrow h (fun x hx=>hbel.same (hlt x (hin x hx))) (fun x hx=>hsp x (by simpa using hin x hx))
  exact trodAll_mk3 (stay (by kernel_rfl) (of_decide_eq_true (by kernel_rfl)) h0 (fun x hx=>List.mem_append_left _ hx)) (shut_bool Tryz.underlying4 _) (Go.ChangeShapes.shut_int Tryz.underlying3 hnn)
theorem liftedUpto (os : Os) (started : os.Started) (H : Type) (enc : TypeId × Value → H) (F : Stop.Interp) :
    ReturnsInHanded {} Tryz.checked os 3 .any ((Rows.OpenSpec.upto Rows.pagePagesSpec).preRow enc Tryz.prog Tryz.f3 Rows.pagePagesUptoRow.domain false Rows.pagePagesUptoRow.laid) (((Rows.OpenSpec.upto Rows.pagePagesSpec).at F).post enc Tryz.prog Tryz.f3 false true false false):=by
  obtain ⟨places,hx⟩:=reads os enc
  refine returnsInHanded_of_row (C:=Tryz.checked) (s:=Rows.OpenSpec.upto Rows.pagePagesSpec) own_knob started (by kernel_rfl) Tryz.func3
    (witness_row_atRef (enc:=enc) (C:=Tryz.checked) false (laidWorld os) wArgs rfl (by kernel_rfl) (by kernel_rfl) (by kernel_rfl)
      (OpenSpec.preRow_of_cond 8 hx (by kernel_rfl) (fun k hk=>by cases hk;kernel_rfl) (by kernel_rfl) (laid_met os))) ?_
  intro W base args ds gs before hval hW _ hcond _ hL hSh _
  exact contract H enc W base args ds gs before hval hW hL hSh (hcond _ rfl)
theorem saidUpto : Rows.PagePagesUptoSaid :=
  OpenClaim.holds_of_cond 3 Tryz.f3 rfl rfl rfl rfl rfl rfl rfl ⟨rfl,rfl,rfl,rfl,rfl⟩ rfl rfl rfl rfl rfl (by kernel_rfl) Tryz.func3 (by kernel_rfl)
    (of_decide_eq_true (by kernel_rfl)) (by unfold Func.isWrapper;first | (rw [if_pos (by decide +kernel)];kernel_rfl) | (rw [if_neg (by decide +kernel)];exact ⟨rfl,rfl⟩))
    (fun os started H enc _ F=>by rw [OpenClaim.pre_eq_preRow];exact liftedUpto os started H enc F)
theorem plain (f : FuncId) (fn : Func) (hf : Tryz.pinned.checked.prog.funcNamed "rebus/rebuslaw21.PagePages" = some f) (hfn : Tryz.pinned.checked.prog.funcs[f]? = some fn) :
    false = Tryz.pinned.checked.prog.looks [] ∧ ∀ (j : Nat) t,fn.params[j]? = some t → Tryz.pinned.checked.prog.wantsStandIn t = false:=by
  obtain rfl : f = 3:=Option.some.inj ((show Tryz.prog.funcNamed "rebus/rebuslaw21.PagePages" = some 3 by kernel_rfl).symm.trans hf) |>.symm
  obtain rfl : fn = Tryz.f3:=(Option.some.inj (Tryz.func3.symm.trans hfn)).symm
  refine ⟨by kernel_rfl,fun j t ht=>?_⟩
  rw [Tryz.params3] at ht
  have hm : t ∈ #[27,4,3]:=Array.mem_of_getElem? ht
  simp only [List.mem_toArray,List.mem_cons,List.not_mem_nil,or_false] at hm
  rcases hm with rfl | rfl | rfl
  · exact (show Tryz.prog.wantsStandIn 27 = false by kernel_rfl)
  · exact (show Tryz.prog.wantsStandIn 4 = false by kernel_rfl)
  · exact (show Tryz.prog.wantsStandIn 3 = false by kernel_rfl)
theorem cardUpto : Rows.PagePagesUptoCardSaid :=
  Claim7.holds_tied_plain_at .later [] _ _ _ _ saidUpto (fun _ h=>by cases h) (by kernel_rfl) (fun _ h=>by cases h) pagePagesUpto_row_tie rfl ⟨rfl,rfl⟩ (by kernel_rfl) rfl plain (by kernel_rfl)
end Go.Proofs.YtpfbcepgmigeiaaGreatDoor.pages
#print axioms Go.Proofs.YtpfbcepgmigeiaaGreatDoor.pages.cardUpto
