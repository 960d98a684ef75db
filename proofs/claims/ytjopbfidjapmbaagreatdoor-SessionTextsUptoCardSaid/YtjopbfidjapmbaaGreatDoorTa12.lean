/- PART 12 OF A PROOF: Lean functions, and that the program computes them; written by hand and by a program. Not trusted: Lean checks it. -/
import Derived.Deep.DeepHandedRow
import Derived.Deep.DeepWitnessRowRef
import Derived.Deep.Grids
import Derived.LaidMore
import Derived.Lib.LaidIn
import Derived.Lib.LaidTab
import Derived.Lib.LaidU8T
import Derived.Lib.SmallJoins
import Derived.ProofKit
import Derived.SliceStrings
import Derived.Stop.LaidErr
import Derived.Test.YtjopbfidjapmbaaGreatDoorRows
import Derived.Test.YtjopbfidjapmbaaGreatDoorTa3
import Derived.Test.YtjopbfidjapmbaaGreatDoorTa11
set_option linter.unusedVariables false
set_option linter.unusedSimpArgs false
section
namespace Go.Proofs.YtjopbfidjapmbaaGreatDoor.Q
open Go.RowKit Go.Proofs.YtjopbfidjapmbaaGreatDoorW.PrintWords Go.Proofs.YtjopbfidjapmbaaGreatDoorW.PrintLast Go.Proofs.YtjopbfidjapmbaaGreatDoorW.PrintMore
open Go.ChangeShapes Go.WideShapes Go.ChangeAt Go.Joins
set_option linter.unusedVariables false
open Go.Proofs.YtjopbfidjapmbaaGreatDoorS
theorem bulk_pos {H : Type} (d : DataW H) : 1 ≤ Rows.uptoBulk d:=by
  cases d with
  | lit l=>cases l <;> simp [Rows.uptoBulk]
  | _=>simp [Rows.uptoBulk]
theorem bulk_part {H : Type} {d : DataW H} {l : List (DataW H)} (h : d ∈ l) : Rows.uptoBulk d ≤ Rows.uptoBulkAll l:=by
  induction l with
  | nil=>cases h
  | cons x r ih =>
    simp only [Rows.uptoBulkAll]
    rcases List.mem_cons.1 h with rfl | e
    · omega
    · have:=ih e;omega
theorem bulk_length {H : Type} (l : List (DataW H)) : l.length ≤ Rows.uptoBulkAll l:=by
  induction l with
  | nil=>simp [Rows.uptoBulkAll]
  | cons x r ih=>have:=bulk_pos x;simp only [Rows.uptoBulkAll,List.length_cons];omega
theorem bulk_bound {H : Type} {l : List (DataW H)} (hk : Rows.uptoSmall H l = true) : Rows.uptoBulkAll l ≤ 1048576:=of_decide_eq_true hk
section
variable {H : Type} {enc : TypeId × Value → H} {P : Program} {w : World}
end
theorem bulk_agg {H : Type} {d : DataW H} {l : List (DataW H)} (h : d ∈ l) : Rows.uptoBulk d ≤ Rows.uptoBulk (.agg l):=by
  have:=bulk_part h
  simp only [Rows.uptoBulk]
  omega
def u8ren : Go.Shelf.Ren:=⟨fun n=>n,fun | 119=>199 | 138=>201 | 139=>202 | _=>5,fun | 3=>6 | _=>7⟩
theorem u8types : U8Types Tryz.prog u8ren:=⟨by kernel_rfl,by kernel_rfl,by kernel_rfl,by kernel_rfl⟩
theorem accept_eq : (Rows.laid_unicode_utf8_acceptRanges : DataW Unit) = Lib.acceptData:=by kernel_rfl
theorem first_eq : Rows.laid_unicode_utf8_first = Lib.firstData:=by kernel_rfl
theorem pow_eq : (Rows.laid_internal_strconv_uint64pow10 : DataW Unit) = Lib.tabData .u64 Lib.pow10Tab:=by kernel_rfl
abbrev laid7 : List (String × DataW Unit):=[("math/bits.deBruijn32tab",Rows.laid_math_bits_deBruijn32tab),("math/bits.deBruijn64tab",Rows.laid_math_bits_deBruijn64tab),("internal/strconv.uint64pow10",Rows.laid_internal_strconv_uint64pow10),("unicode/utf8.acceptRanges",Rows.laid_unicode_utf8_acceptRanges),("strconv.ErrRange",Rows.laid_strconv_ErrRange),("strconv.ErrSyntax",Rows.laid_strconv_ErrSyntax),("unicode/utf8.first",Rows.laid_unicode_utf8_first)]
theorem tabs_of_laid {w : World} (h : laidMetH Tryz.prog laid7 w) (hs : w.ShapedOpen Tryz.prog) : Tabs w:=by
  have h' : laidMet Tryz.prog [("math/bits.deBruijn32tab",Rows.laid_math_bits_deBruijn32tab),("math/bits.deBruijn64tab",Rows.laid_math_bits_deBruijn64tab),("internal/strconv.uint64pow10",Lib.tabData .u64 Lib.pow10Tab),("unicode/utf8.acceptRanges",Lib.acceptData),("strconv.ErrRange",Rows.laid_strconv_ErrRange),("strconv.ErrSyntax",Rows.laid_strconv_ErrSyntax),("unicode/utf8.first",Lib.firstData)] w:=by rw [← accept_eq,← first_eq,← pow_eq];exact h
  refine ⟨utf8Tabs_of_readsT u8types ⟨by kernel_rfl,by kernel_rfl,by kernel_rfl,by kernel_rfl,by kernel_rfl,by kernel_rfl,by kernel_rfl⟩ (Lib.laidMet.reads h' (.tail _ (.tail _ (.tail _ (.tail _ (.tail _ (.tail _ (.head _)))))))) (Lib.laidMet.reads h' (.tail _ (.tail _ (.tail _ (.head _))))),?_,?_⟩
  · exact Lib.tabIs_of_head (g:=3) (n:=20) (by kernel_rfl) (by kernel_rfl) Tryz.underlying181 Tryz.underlying152 (by kernel_rfl) (by kernel_rfl) (laidMet.tail (laidMet.tail h'))
  · exact Tryz.laysM145.s1_3 w hs
def putTab (h : Array Obj) (g : Nat) (cs : Array Value) : Array Obj:=h.modify g fun
  | .cells _ t frozen=>.cells cs t frozen
  | o=>o
noncomputable def laidWorld (os : Os) : World :=
  { World.doorLaid Tryz.prog 72 os with heap:=putTab (World.doorLaid Tryz.prog 72 os).heap 6 (Lib.firstTab.map fun z=>Value.int .u8 z).toArray }
theorem own_knob : ownKnob Tryz.prog.godebug = none:=by kernel_rfl
theorem laid_out : laidOutB Tryz.prog = true:=by kernel_rfl
section
variable {H : Type} {enc : TypeId × Value → H} {P : Program}
theorem post_of_below {f : Func} {s : ChangeSpec} {apart fresh handsOn again : Bool} {W W' : World} {args : Array Value} {v : Value} {ds gs : List (DataW H)} {before pa pv : List MemPlace}
    (hW : DataW.Whole enc P f.params.toList s.vars apart W args.toList ds gs before)
    (hres : ∀ (b : Nat) (sp : Nat → Bool) (hd : Bool),DataW.TrodAll enc P W' b sp hd f.resultTypes.toList (v.resultList f.resultTypes.size) (s.fn H (ds ++ gs)).results [])
    (hargs : ∀ sp : Nat → Bool,(∀ p ∈ before,sp p.block = true) → DataW.TrodAll enc P W' 0 sp true f.params.toList args.toList (s.fn H (ds ++ gs)).args pa)
    (hvars : ∀ sp : Nat → Bool,(∀ p ∈ before,sp p.block = true) → DataW.TrodVars enc P W' sp s.vars (s.fn H (ds ++ gs)).vars pv)
    (hps : before = pa ++ pv) (hb : Below W.heap.size W W')
    (hok : ∀ (j : Nat) (t : TypeId) (r : Value),f.resultTypes[j]? = some t → (v.resultList f.resultTypes.size)[j]? = some r → Value.okWide P W' .any 0 t r) :
    s.post enc P f apart fresh handsOn again W args v W':=by
  have hlt : ∀ p ∈ before,p.block < W.heap.size:=fun p hp=>hW.lt p hp
  have hold : ∀ p ∈ before,(fun b=>decide (b < W.heap.size)) p.block = true:=fun p hp=>by simpa using hlt p hp
  refine ⟨ds,gs,before,[],pa,pv,hW,hres _ _ _,hargs _ hold,hvars _ hold,World.keptBut_mono (fun p hp=>⟨hp,?_⟩) (hb.frame (· ∈ before)),fun _=>?_⟩
  · rw [hps,List.mem_append] at hp
    exact Or.inr hp
  · obtain ⟨_,_,_,_,_,hz,hn⟩:=hW
    refine ⟨hok,_,_,([] ++ pa) ++ pv,⟨[] ++ pa,pv,trodAll_append (hargs _ (fun _ _=>rfl)) (hres _ _ _),hvars _ (fun _ _=>rfl),rfl,?_,?_⟩,?_⟩
    · intro b off hp
      have hin : MemPlace.cell b off ∈ before:=by rw [hps];simpa using hp
      rw [hb.frozen (hlt _ hin)]
      exact hz b off hin
    · intro ha
      have:=hn ha
      rw [hps] at this
      simpa using this
    · intro p hp _
      rw [hps]
      simpa using hp
end
end Go.Proofs.YtjopbfidjapmbaaGreatDoor.Q
end
section
namespace Go.Proofs.YtjopbfidjapmbaaGreatDoor.Q
open Go.RowKit Go.Proofs.YtjopbfidjapmbaaGreatDoorW.PrintWords Go.Proofs.YtjopbfidjapmbaaGreatDoorW.PrintLast Go.Proofs.YtjopbfidjapmbaaGreatDoorW.PrintMore
set_option linter.unusedVariables false
abbrev ActV:=Int × Int × ByteArray
structure ActsR (A : Option Addr) (c : Nat) (l : List ActV) (w : World) : Prop where
  n : l.length ≤ c
  m : l.length ≤ 9223372036854775807
  cell : ∀ (j : Nat) (x : ActV),l[j]? = some x → ∃ ad,A = some ad ∧ w.cell? (ad.add (j * 3)) = some (.int .i64 x.1) ∧ w.cell? ⟨(ad.add (j * 3)).block,(ad.add (j * 3)).off + 1,none⟩ = some (.int .i64 x.2.1) ∧ w.cell? ⟨(ad.add (j * 3)).block,(ad.add (j * 3)).off + 2,none⟩ = some (.string x.2.2)
theorem ActsR.below {A : Option Addr} {c : Nat} {l : List ActV} {w w' : World} (h : ActsR A c l w) (hb : Below w.heap.size w w') : ActsR A c l w' :=
  ⟨h.n,h.m,fun j x hx=>by
    obtain ⟨ad,e,h0,h1,h2⟩:=h.cell j x hx
    exact ⟨ad,e,pw_cell_below hb h0,pw_cell_below hb h1,pw_cell_below hb h2⟩⟩
end Go.Proofs.YtjopbfidjapmbaaGreatDoor.Q
end
section
namespace Go.Proofs.YtjopbfidjapmbaaGreatDoor.Q
open Go.RowKit Go.Proofs.YtjopbfidjapmbaaGreatDoorW.PrintWords Go.Proofs.YtjopbfidjapmbaaGreatDoorW.PrintLast Go.Proofs.YtjopbfidjapmbaaGreatDoorW.PrintMore
open Go.ChangeShapes Go.WideShapes Go.ChangeAt Go.Joins
set_option linter.unusedVariables false
theorem cells3_list {cs : List Value} (h : cs.length = 3) : ∃ a b c,cs = [a,b,c]:=by
  match cs,h with
  | [a,b,c],_=>exact ⟨a,b,c,rfl⟩
end Go.Proofs.YtjopbfidjapmbaaGreatDoor.Q
end
section
namespace Go.Proofs.YtjopbfidjapmbaaGreatDoor.Q
open Go.RowKit Go.Proofs.YtjopbfidjapmbaaGreatDoorW.PrintWords Go.Proofs.YtjopbfidjapmbaaGreatDoorW.PrintLast Go.Proofs.YtjopbfidjapmbaaGreatDoorW.PrintMore
set_option linter.unusedVariables false
set_option linter.unusedSimpArgs false
open Go.Proofs.YtjopbfidjapmbaaGreatDoorS
theorem firstOpen_step {bl : List Bool} {n i : Nat} (hi : i < n) : firstOpen bl (n - i) i = if rdOf false bl (i : Int) then firstOpen bl (n - (i + 1)) (i + 1) else (i : Int):=by
  obtain ⟨d,hd⟩ : ∃ d,n - i = d + 1:=⟨n - i - 1,by omega⟩
  rw [hd,show n - (i + 1) = d by omega]
  rfl
theorem firstOpen_lt (bl : List Bool) : ∀ d i,firstOpen bl d i < (i + d : Nat) ∧ -1 ≤ firstOpen bl d i
  | 0,i=>⟨by simp only [firstOpen];omega,by simp [firstOpen]⟩
  | d + 1,i=>by
    have:=firstOpen_lt bl d (i + 1)
    simp only [firstOpen]
    split
    · omega
    · omega
set_option maxHeartbeats 8000000 in
set_option maxRecDepth 1000000 in
theorem index_calls {A : Option Addr} {c : Nat} {bl : List Bool} {w : World} (hl : bl.length ≤ 1048576) (h : Kd.C Kd.bool w A bl.length bl) :
    Calls Tryz.prog 50 #[.slice A bl.length c,.bool false] w fun e w'=>e = .returned (.int .i64 (firstOpen bl bl.length 0)) ∧ Below w.heap.size w w':=by
  obtain ⟨V,hV⟩ : ∃ V,firstOpen bl bl.length 0 = V:=⟨_,rfl⟩
  rw [hV]
  go_enter Tryz.func50,Tryz.ntmps50
  go_wp2
  go_loopw [8] (fun v8 wr=>∃ (i : Nat) (q : Int),v8 = .int .i64 q ∧ Hid (q = i ∧ i ≤ bl.length) ∧ Hid (V = firstOpen bl (bl.length - i) i) ∧ Hid (Below w.heap.size w wr)) (fun v8 _=>bl.length - (intOf v8).toNat)
  case atStart=>exact ⟨0,0,rfl,Lib.hid ⟨rfl,Nat.zero_le _⟩,Lib.hid hV.symm,Lib.hid (Below.refl _ _)⟩
  case round =>
    clear hV
    obtain ⟨i,q,rfl,hq,hrb,hB⟩:=hrel
    by_cases hlt : i < bl.length
    · have hq0 : 0 ≤ q:=by have:=hq.out;omega
      have hq1 : q < (bl.length : Int):=by have:=hq.out;omega
      have hq3 : q < 1048576:=by omega
      obtain ⟨ad,eA,zx⟩:=Kd.at_bool (Kd.C_below h hB.out) q hq0 hq1
      cases eA
      have hst:=firstOpen_step (bl:=bl) hlt
      rw [← hq.out.1] at hst
      obtain ⟨xa,hxa⟩ : ∃ x,rdOf false bl q = x:=⟨_,rfl⟩
      rw [hxa] at hst zx
      clear hxa
      cases xa with
      | true =>
        have hE : V = firstOpen bl (bl.length - (i + 1)) (i + 1):=by rw [hrb.out,hst];rfl
        replace hE:=Lib.hid hE
        replace hlt:=Lib.hid hlt
        clear hst hrb
        go_wp2
        refine ⟨⟨i + 1,q + 1,rfl,Lib.hid ⟨by have:=hq.out;omega,hlt.out⟩,hE,hB⟩,?_⟩
        simp only [intOf];have:=hq.out;have:=hlt.out;omega
      | false =>
        have hE : V = q:=by rw [hrb.out,hst];rfl
        replace hE:=Lib.hid hE
        clear hst hrb
        go_wp2
        go_ret
        exact ⟨by rw [hE.out];rfl,hB.out⟩
    · have hge : ¬ q < (bl.length : Int):=by have:=hq.out;omega
      have hE : V = -1:=by rw [hrb.out,show bl.length - i = 0 by have:=hq.out;omega];rfl
      replace hE:=Lib.hid hE
      clear hrb
      go_wp2
      go_ret
      exact ⟨by rw [hE.out];rfl,hB.out⟩
set_option maxHeartbeats 8000000 in
set_option maxRecDepth 1000000 in
theorem start_calls {title : ByteArray} {H W : Int} {A2 : Option Addr} {c2 : Nat} {bl : List Bool} {A3 : Option Addr} {c3 : Nat} {ri : List Bool} {A4 : Option Addr} {c4 : Nat} {be : List Bool} {A5 : Option Addr} {c5 : Nat} {cells : List ByteArray} {A6 : Option Addr} {c6 : Nat} {clues : List ByteArray} {w : World} (hT : Tabs w) (hP : PuzR A2 c2 bl A3 c3 ri A4 c4 be A5 c5 cells A6 c6 clues w) (hz : PuzS title cells clues) :
    Calls Tryz.prog 28 #[.agg #[.string title,.int .i64 H,.int .i64 W,.slice A2 bl.length c2,.slice A3 ri.length c3,.slice A4 be.length c4,.slice A5 cells.length c5,.slice A6 clues.length c6]] w (DoPost w (sstart title H W bl ri be cells clues)):=by
  have hx:=box2 w (.cells #[.string title,.int .i64 H,.int .i64 W,.slice A2 bl.length c2,.slice A3 ri.length c3,.slice A4 be.length c4,.slice A5 cells.length c5,.slice A6 clues.length c6] 42) (.cells #[.slice none 0 0,.slice none 0 0,.int .i64 0,.bool false] 57)
  replace hx:=Lib.hid hx
  have hu27:=Tryz.underlying42
  have hu24:=Tryz.underlying39
  have hu30:=Tryz.underlying57
  by_cases hp : pcheck title H W bl ri be cells clues = 0
  · have tp : ((0 : Int) != 0) = false:=rfl
    have hck:=hp
    have hbl : cells.length = bl.length:=(pcheck_ok hp).2.1
    obtain ⟨V,hV⟩ : ∃ V,sstart title H W bl ri be cells clues = V:=⟨_,rfl⟩
    have hv : V = if firstOpen bl bl.length 0 < 0 then ([],[],0,false,230) else (List.replicate cells.length ⟨#[]⟩,List.replicate cells.length false,firstOpen bl bl.length 0,false,0):=by rw [← hV];unfold sstart;rw [if_pos hp]
    rw [hV]
    obtain ⟨l3,hl3⟩ : ∃ l : List ByteArray,l = List.replicate cells.length ⟨#[]⟩:=⟨_,rfl⟩
    obtain ⟨l7,hl7⟩ : ∃ l : List Bool,l = List.replicate cells.length false:=⟨_,rfl⟩
    rw [← hl3,← hl7] at hv
    have hfl:=firstOpen_lt bl bl.length 0
    obtain ⟨q,hf⟩ : ∃ q,firstOpen bl bl.length 0 = q:=⟨_,rfl⟩
    rw [hf] at hv hfl
    clear hV hp
    replace hf:=Lib.hid hf
    replace hck:=Lib.hid hck
    replace hl3:=Lib.hid hl3
    replace hl7:=Lib.hid hl7
    by_cases hq : q < 0
    · have tq : decide (q < 0) = true:=decide_eq_true hq
      have hE : V = ([],[],0,false,230):=by rw [hv,if_pos hq]
      clear hv hq hfl
      replace hE:=Lib.hid hE
      replace hbl:=Lib.hid hbl
      go_enter Tryz.func28,Tryz.ntmps28
      go_wp2_with (first
        | (go_at_call 49;go_must (refine (page_calls (tabs_below hT hx.out.2.2) (hP.below hx.out.2.2) hz).mono ?_;rintro e w3 ⟨rfl,hb3⟩;rw [hck.out];have hB3:=Lib.hid (below_step hx.out.2.2 hb3);have bP:=Lib.hid (blk_below hx.out.1 hb3);have bT:=Lib.hid (blk_below hx.out.2.1 hb3);have p3:=cells8 bP.out;have t3:=cells4 bT.out;have f3:=frozen4 bT.out;have y3:=blk_lt bT.out;clear hb3))
        | (go_at_call 50;go_must (refine (index_calls (by have:=hbl.out;have:=hz.l;omega) (hP.below hB3.out).r2).mono ?_;rintro e wr ⟨rfl,hb4⟩;rw [hf.out];have hB:=Lib.hid (below_step hB3.out hb4);have bP:=Lib.hid (blk_below bP.out hb4);have bT:=Lib.hid (blk_below bT.out hb4);have p4:=cells8 bP.out;have t4:=cells4 bT.out;have f4:=frozen4 bT.out;have y4:=blk_lt bT.out;clear hb4 p3 t3 f3 y3))
        | ((with_reducible refine gate_store (t:=57) (p:=2) (v:=.tmp 18) rfl ?_);go_must (refine store_event (w1:=put4 wr (w.heap.size + 1) (.slice none 0 0) (.slice none 0 0) (.int .i64 0) (.bool false)) (by rfl) (by rfl) (by rfl) ?hr ?_;(case hr=>first | (go_simp;done) | (go_simp;rfl));intro w5 hw5;have Fw5:=put4_facts bT.out (.slice none 0 0) (.slice none 0 0) (.int .i64 0) (.bool false);rw [← hw5] at Fw5;have hB5:=Lib.hid (Fw5.2.2 _ _ hB.out (by omega));have bT5:=Lib.hid Fw5.1;clear hw5 Fw5)))
      refine bodyPost_ret (results_ct rfl _ _ (w.heap.size + 1) 57 #[.slice none 0 0,.slice none 0 0,.int .i64 0,.bool false] (0,0) _ rfl bT5.out Tryz.underlying57 rfl (by kernel_rfl)) rfl ?_
      rw [hE.out]
      exact ⟨_,_,rfl,Kd.R_nil _ _ _ _ _,Kd.R_nil _ _ _ _ _,hB5.out⟩
    · have tq : decide (q < 0) = false:=decide_eq_false hq
      have hE : V = (l3,l7,q,false,0):=by rw [hv,if_neg hq]
      clear hv
      replace hE:=Lib.hid hE
      replace hbl:=Lib.hid hbl
      go_enter Tryz.func28,Tryz.ntmps28
      go_wp2_with (first
        | (go_at_call 49;go_must (refine (page_calls (tabs_below hT hx.out.2.2) (hP.below hx.out.2.2) hz).mono ?_;rintro e w3 ⟨rfl,hb3⟩;rw [hck.out];have hB3:=Lib.hid (below_step hx.out.2.2 hb3);have bP:=Lib.hid (blk_below hx.out.1 hb3);have bT:=Lib.hid (blk_below hx.out.2.1 hb3);have p3:=cells8 bP.out;have t3:=cells4 bT.out;have f3:=frozen4 bT.out;have y3:=blk_lt bT.out;clear hb3))
        | (go_at_call 50;go_must (refine (index_calls (by have:=hbl.out;have:=hz.l;omega) (hP.below hB3.out).r2).mono ?_;rintro e wr ⟨rfl,hb4⟩;rw [hf.out];have hB:=Lib.hid (below_step hB3.out hb4);have bP:=Lib.hid (blk_below bP.out hb4);have bT:=Lib.hid (blk_below bT.out hb4);have p4:=cells8 bP.out;have t4:=cells4 bT.out;have f4:=frozen4 bT.out;have y4:=blk_lt bT.out;clear hb4 p3 t3 f3 y3)))
      refine start_ (n:=12) (S:=fun w'=>w'.cell? ⟨w.heap.size,6,none⟩ = some (.slice A5 cells.length c5)) (ds:=[]) #[false,false,false,false,false,false,false,false,false,false,false,false] (by kernel_rfl) rfl rfl ((blk_cell (blk_drew bP.out) 6).trans rfl) (fun hHeld=>?_)
      refine pure_ (i:=0) (N:=some 19) (v:=?_) (a':=?_) #[true,false,false,false,false,false,false,false,false,false,false,false] rfl rfl (by kernel_rfl) (fun _ _ _ h=>h) (Or.inl ⟨by rfl,?_⟩) ?_ ?_
      rotate_left
      · intro w';go_simp;with_reducible rfl
      rotate_left
      · simp only [Act.put,List.setIfInBounds_toArray,List.set_cons_zero,List.set_cons_succ,i64_w,i32_w];rfl
      refine pure_ (i:=4) (N:=some 23) (v:=?_) (a':=?_) #[true,false,false,false,true,false,false,false,false,false,false,false] rfl rfl (by kernel_rfl) (fun _ _ _ h=>h) (Or.inl ⟨by rfl,?_⟩) ?_ ?_
      rotate_left
      · intro w';go_simp;with_reducible rfl
      rotate_left
      · simp only [Act.put,List.setIfInBounds_toArray,List.set_cons_zero,List.set_cons_succ,i64_w,i32_w];rfl
      refine pure_ (i:=8) (N:=some 27) (v:=?_) (a':=?_) #[true,false,false,false,true,false,false,false,true,false,false,false] rfl rfl (by kernel_rfl) (fun _ _ _ h=>h) (Or.inl ⟨by rfl,?_⟩) ?_ ?_
      rotate_left
      · intro w';go_simp;with_reducible rfl
      rotate_left
      · simp only [Act.put,List.setIfInBounds_toArray,List.set_cons_zero,List.set_cons_succ,i64_w,i32_w];rfl
      refine take_ (i:=1) (N:=some 20) (v:=?_) (a':=?_) #[true,true,false,false,true,false,false,false,true,false,false,false] rfl rfl (by kernel_rfl) (fun _ _ _ h=>h) (Or.inl ⟨by rfl,?_⟩) hHeld ?_ ?_
      rotate_left
      · intro w' s0;go_simp;with_reducible rfl
      rotate_left
      · simp only [Act.put,List.setIfInBounds_toArray,List.set_cons_zero,List.set_cons_succ,i64_w,i32_w];rfl
      refine pure_ (i:=2) (N:=some 21) (v:=?_) (a':=?_) #[true,true,true,false,true,false,false,false,true,false,false,false] rfl rfl (by kernel_rfl) (fun _ _ _ h=>h) (Or.inl ⟨by rfl,?_⟩) ?_ ?_
      rotate_left
      · intro w';go_simp;with_reducible rfl
      rotate_left
      · simp only [Act.put,List.setIfInBounds_toArray,List.set_cons_zero,List.set_cons_succ,i64_w,i32_w];rfl
      refine take_ (i:=5) (N:=some 24) (v:=?_) (a':=?_) #[true,true,true,false,true,true,false,false,true,false,false,false] rfl rfl (by kernel_rfl) (fun _ _ _ h=>h) (Or.inl ⟨by rfl,?_⟩) hHeld ?_ ?_
      rotate_left
      · intro w' s0;go_simp;with_reducible rfl
      rotate_left
      · simp only [Act.put,List.setIfInBounds_toArray,List.set_cons_zero,List.set_cons_succ,i64_w,i32_w];rfl
      refine pure_ (i:=6) (N:=some 25) (v:=?_) (a':=?_) #[true,true,true,false,true,true,true,false,true,false,false,false] rfl rfl (by kernel_rfl) (fun _ _ _ h=>h) (Or.inl ⟨by rfl,?_⟩) ?_ ?_
      rotate_left
      · intro w';go_simp;with_reducible rfl
      rotate_left
      · simp only [Act.put,List.setIfInBounds_toArray,List.set_cons_zero,List.set_cons_succ,i64_w,i32_w];rfl
      refine two_ (i:=3) (j:=7) (Ni:=some 22) (Nj:=some 26) #[true,true,true,true,true,true,true,false,true,false,false,false] #[true,true,true,false,true,true,true,true,true,false,false,false] rfl rfl rfl rfl (by kernel_rfl) (by decide) (by decide) (fun K hK=>?_) (fun K hK=>?_)
      · refine Kd.R_make_step Kd.string _ 9 (by rfl) (N:=22) rfl 40 _ _ rfl (cells.length : Int) rfl rfl Tryz.underlying40 (.string ⟨#[]⟩) 16 str_info rfl (by decide) (by decide) (⟨#[]⟩ : ByteArray) (ok:=fun _=>True) (okp:=fun _=>True) rfl (fun _ hk=>hk) trivial (by omega) (by have:=hz.l;omega) (Below.refl _ _) (Nat.le_refl _) ?_
        intro v3 w6 ho3 hb _ _
        rw [Int.toNat_natCast,← hl3.out] at ho3
        obtain ⟨A39,k39,rfl⟩:=Kd.R_slice ho3
        have R3:=Kd.R_lower ho3 (below_size (below_drew hB.out))
        have bP6:=blk_below (blk_drew bP.out) hb
        have bT6:=blk_below (blk_drew bT.out) hb
        have hB6:=below_step (below_drew hB.out) hb
        clear hb ho3
        refine hK.out _ _ ((blk_cell bP6 6).trans rfl) (fun hHeld=>?_)
        clear hK K
        refine norm_ (a':=?_) ?_ ?_
        rotate_left
        · show Act.put _ (some 22) _ = _
          simp only [Act.put,List.setIfInBounds_toArray,List.set_cons_zero,List.set_cons_succ,i64_w,i32_w]
          rfl
        refine one_ (i:=7) (N:=some 26) #[true,true,true,true,true,true,true,true,true,false,false,false] rfl rfl (by kernel_rfl) (by decide) (fun K hK=>?_)
        refine Kd.R_make_step Kd.bool _ 4 (by rfl) (N:=26) rfl 37 _ _ rfl (cells.length : Int) rfl rfl Tryz.underlying37 (.bool false) 1 bool_info rfl (by decide) (by decide) false (ok:=fun _=>True) (okp:=fun _=>True) rfl (fun _ hk=>hk) trivial (by omega) (by have:=hz.l;omega) (Below.refl _ _) (Nat.le_refl _) ?_
        intro v7 w8 ho7 hb _ _
        rw [Int.toNat_natCast,← hl7.out] at ho7
        obtain ⟨A79,k79,rfl⟩:=Kd.R_slice ho7
        have R7:=Kd.R_lower ho7 (below_size hB6)
        have R38:=Kd.R_below R3 hb
        have R78:=R7
        have bP8:=blk_below bP6 hb
        have bT8:=blk_below bT6 hb
        have hB8:=below_step hB6 hb
        clear hb ho7
        refine hK.out _ _ ((blk_cell bP8 6).trans rfl) (fun hHeld=>?_)
        clear hK K
        refine norm_ (a':=?_) ?_ ?_
        rotate_left
        · show Act.put _ (some 26) _ = _
          simp only [Act.put,List.setIfInBounds_toArray,List.set_cons_zero,List.set_cons_succ,i64_w,i32_w]
          rfl
        refine pure_ (i:=9) (N:=some 28) (v:=?_) (a':=?_) #[true,true,true,true,true,true,true,true,true,true,false,false] rfl rfl (by kernel_rfl) (fun _ _ _ h=>h) (Or.inl ⟨by rfl,?_⟩) ?_ ?_
        rotate_left
        · intro w';go_simp;with_reducible rfl
        rotate_left
        · simp only [Act.put,List.setIfInBounds_toArray,List.set_cons_zero,List.set_cons_succ,i64_w,i32_w];rfl
        refine one_ (i:=10) (N:=none) #[true,true,true,true,true,true,true,true,true,true,true,false] rfl rfl (by kernel_rfl) (by decide) (fun K hK=>?_)
        have t8:=cells4 bT8
        have f8:=frozen4 bT8
        have F8:=put4_facts bT8 (.slice A39 l3.length k39) (.slice A79 l7.length k79) (.int .i64 q) (.bool false)
        refine skip_ (w1:=put4 w8 (w.heap.size + 1) (.slice A39 l3.length k39) (.slice A79 l7.length k79) (.int .i64 q) (.bool false)) (by rfl) rfl (by first | (go_simp;done) | (go_simp;rfl)) ?_
        generalize put4 w8 (w.heap.size + 1) (.slice A39 l3.length k39) (.slice A79 l7.length k79) (.int .i64 q) (.bool false) = w9 at F8 ⊢
        have bP9:=(F8.2.1 _ (by omega)).trans bP8
        refine hK.out _ _ ((blk_cell bP9 6).trans rfl) (fun hHeld=>?_)
        clear hK K
        refine pure_ (i:=11) (N:=some 3) (v:=?_) (a':=?_) #[true,true,true,true,true,true,true,true,true,true,true,true] rfl rfl (by kernel_rfl) (fun _ _ _ h=>h) (Or.inl ⟨by rfl,?_⟩) ?_ ?_
        rotate_left
        · intro w';go_simp;with_reducible rfl
        rotate_left
        · simp only [Act.put,List.setIfInBounds_toArray,List.set_cons_zero,List.set_cons_succ,i64_w,i32_w];rfl
        refine done_ (by kernel_rfl) ?_
        try go_wp2
        refine bodyPost_ret (results_ct rfl _ _ (w.heap.size + 1) 57 #[.slice A39 l3.length k39,.slice A79 l7.length k79,.int .i64 q,.bool false] (0,0) _ rfl F8.1 Tryz.underlying57 rfl (by kernel_rfl)) rfl ?_
        rw [hE.out]
        exact ⟨_,_,rfl,R_of_heap R38 bT8 (by decide) F8.2.1,R_of_heap R78 bT8 (by decide) F8.2.1,F8.2.2 _ _ hB8 (by omega)⟩
      · refine Kd.R_make_step Kd.bool _ 4 (by rfl) (N:=26) rfl 37 _ _ rfl (cells.length : Int) rfl rfl Tryz.underlying37 (.bool false) 1 bool_info rfl (by decide) (by decide) false (ok:=fun _=>True) (okp:=fun _=>True) rfl (fun _ hk=>hk) trivial (by omega) (by have:=hz.l;omega) (Below.refl _ _) (Nat.le_refl _) ?_
        intro v7 w6 ho7 hb _ _
        rw [Int.toNat_natCast,← hl7.out] at ho7
        obtain ⟨A79,k79,rfl⟩:=Kd.R_slice ho7
        have R7:=Kd.R_lower ho7 (below_size (below_drew hB.out))
        have bP6:=blk_below (blk_drew bP.out) hb
        have bT6:=blk_below (blk_drew bT.out) hb
        have hB6:=below_step (below_drew hB.out) hb
        clear hb ho7
        refine hK.out _ _ ((blk_cell bP6 6).trans rfl) (fun hHeld=>?_)
        clear hK K
        refine norm_ (a':=?_) ?_ ?_
        rotate_left
        · show Act.put _ (some 26) _ = _
          simp only [Act.put,List.setIfInBounds_toArray,List.set_cons_zero,List.set_cons_succ,i64_w,i32_w]
          rfl
        refine one_ (i:=3) (N:=some 22) #[true,true,true,true,true,true,true,true,true,false,false,false] rfl rfl (by kernel_rfl) (by decide) (fun K hK=>?_)
        refine Kd.R_make_step Kd.string _ 9 (by rfl) (N:=22) rfl 40 _ _ rfl (cells.length : Int) rfl rfl Tryz.underlying40 (.string ⟨#[]⟩) 16 str_info rfl (by decide) (by decide) (⟨#[]⟩ : ByteArray) (ok:=fun _=>True) (okp:=fun _=>True) rfl (fun _ hk=>hk) trivial (by omega) (by have:=hz.l;omega) (Below.refl _ _) (Nat.le_refl _) ?_
        intro v3 w8 ho3 hb _ _
        rw [Int.toNat_natCast,← hl3.out] at ho3
        obtain ⟨A39,k39,rfl⟩:=Kd.R_slice ho3
        have R3:=Kd.R_lower ho3 (below_size hB6)
        have R78:=Kd.R_below R7 hb
        have R38:=R3
        have bP8:=blk_below bP6 hb
        have bT8:=blk_below bT6 hb
        have hB8:=below_step hB6 hb
        clear hb ho3
        refine hK.out _ _ ((blk_cell bP8 6).trans rfl) (fun hHeld=>?_)
        clear hK K
        refine norm_ (a':=?_) ?_ ?_
        rotate_left
        · show Act.put _ (some 22) _ = _
          simp only [Act.put,List.setIfInBounds_toArray,List.set_cons_zero,List.set_cons_succ,i64_w,i32_w]
          rfl
        refine pure_ (i:=9) (N:=some 28) (v:=?_) (a':=?_) #[true,true,true,true,true,true,true,true,true,true,false,false] rfl rfl (by kernel_rfl) (fun _ _ _ h=>h) (Or.inl ⟨by rfl,?_⟩) ?_ ?_
        rotate_left
        · intro w';go_simp;with_reducible rfl
        rotate_left
        · simp only [Act.put,List.setIfInBounds_toArray,List.set_cons_zero,List.set_cons_succ,i64_w,i32_w];rfl
        refine one_ (i:=10) (N:=none) #[true,true,true,true,true,true,true,true,true,true,true,false] rfl rfl (by kernel_rfl) (by decide) (fun K hK=>?_)
        have t8:=cells4 bT8
        have f8:=frozen4 bT8
        have F8:=put4_facts bT8 (.slice A39 l3.length k39) (.slice A79 l7.length k79) (.int .i64 q) (.bool false)
        refine skip_ (w1:=put4 w8 (w.heap.size + 1) (.slice A39 l3.length k39) (.slice A79 l7.length k79) (.int .i64 q) (.bool false)) (by rfl) rfl (by first | (go_simp;done) | (go_simp;rfl)) ?_
        generalize put4 w8 (w.heap.size + 1) (.slice A39 l3.length k39) (.slice A79 l7.length k79) (.int .i64 q) (.bool false) = w9 at F8 ⊢
        have bP9:=(F8.2.1 _ (by omega)).trans bP8
        refine hK.out _ _ ((blk_cell bP9 6).trans rfl) (fun hHeld=>?_)
        clear hK K
        refine pure_ (i:=11) (N:=some 3) (v:=?_) (a':=?_) #[true,true,true,true,true,true,true,true,true,true,true,true] rfl rfl (by kernel_rfl) (fun _ _ _ h=>h) (Or.inl ⟨by rfl,?_⟩) ?_ ?_
        rotate_left
        · intro w';go_simp;with_reducible rfl
        rotate_left
        · simp only [Act.put,List.setIfInBounds_toArray,List.set_cons_zero,List.set_cons_succ,i64_w,i32_w];rfl
        refine done_ (by kernel_rfl) ?_
        try go_wp2
        refine bodyPost_ret (results_ct rfl _ _ (w.heap.size + 1) 57 #[.slice A39 l3.length k39,.slice A79 l7.length k79,.int .i64 q,.bool false] (0,0) _ rfl F8.1 Tryz.underlying57 rfl (by kernel_rfl)) rfl ?_
        rw [hE.out]
        exact ⟨_,_,rfl,R_of_heap R38 bT8 (by decide) F8.2.1,R_of_heap R78 bT8 (by decide) F8.2.1,F8.2.2 _ _ hB8 (by omega)⟩
  · have tp : (pcheck title H W bl ri be cells clues != 0) = true:=bne_iff_ne.2 hp
    have hv : sstart title H W bl ri be cells clues = ([],[],0,false,pcheck title H W bl ri be cells clues):=by unfold sstart;rw [if_neg hp]
    rw [hv]
    clear hv hp
    obtain ⟨pe,hpe⟩ : ∃ x,pcheck title H W bl ri be cells clues = x:=⟨_,rfl⟩
    rw [hpe] at tp ⊢
    have hck:=Lib.hid hpe
    go_enter Tryz.func28,Tryz.ntmps28
    go_wp2_with (first
      | (go_at_call 49;go_must (refine (page_calls (tabs_below hT hx.out.2.2) (hP.below hx.out.2.2) hz).mono ?_;rintro e w3 ⟨rfl,hb3⟩;rw [hck.out];have hB3:=Lib.hid (below_step hx.out.2.2 hb3);have bP:=Lib.hid (blk_below hx.out.1 hb3);have bT:=Lib.hid (blk_below hx.out.2.1 hb3);have p3:=cells8 bP.out;have t3:=cells4 bT.out;have f3:=frozen4 bT.out;have y3:=blk_lt bT.out;clear hb3))
      | ((with_reducible refine gate_store (t:=57) (p:=2) (v:=.tmp 10) rfl ?_);go_must (refine store_event (w1:=put4 w3 (w.heap.size + 1) (.slice none 0 0) (.slice none 0 0) (.int .i64 0) (.bool false)) (by rfl) (by rfl) (by rfl) ?hr ?_;(case hr=>first | (go_simp;done) | (go_simp;rfl));intro w5 hw5;have Fw5:=put4_facts bT.out (.slice none 0 0) (.slice none 0 0) (.int .i64 0) (.bool false);rw [← hw5] at Fw5;have hB5:=Lib.hid (Fw5.2.2 _ _ hB3.out (by omega));have bT5:=Lib.hid Fw5.1;clear hw5 Fw5)))
    refine bodyPost_ret (results_ct rfl _ _ (w.heap.size + 1) 57 #[.slice none 0 0,.slice none 0 0,.int .i64 0,.bool false] (0,0) _ rfl bT5.out Tryz.underlying57 rfl (by kernel_rfl)) rfl ?_
    exact ⟨_,_,rfl,Kd.R_nil _ _ _ _ _,Kd.R_nil _ _ _ _ _,hB5.out⟩
end Go.Proofs.YtjopbfidjapmbaaGreatDoor.Q
end
section
namespace Go.Proofs.YtjopbfidjapmbaaGreatDoor.Q
open Go.RowKit Go.Proofs.YtjopbfidjapmbaaGreatDoorW.PrintWords Go.Proofs.YtjopbfidjapmbaaGreatDoorW.PrintLast Go.Proofs.YtjopbfidjapmbaaGreatDoorW.PrintMore
attribute [local go_sem] max2_int min2_int max_two min_two max_three min_three max_four min_four
set_option linter.unusedVariables false
set_option linter.unusedSimpArgs false
theorem eqA35 (d : Nat) (w : World) (x0 y0 : Int) (x1 y1 : Int) (x2 y2 : ByteArray) :
  (Op.equalIn (d + 2) 35 (.agg #[.int .i64 x0,.int .i64 x1,.string x2]) (.agg #[.int .i64 y0,.int .i64 y1,.string y2])).run Tryz.prog w = .ok (x0 == y0 && (x1 == y1 && (x2.toList == y2.toList))) w:=by
 refine eqA_of Tryz.underlying35 (by kernel_rfl) ?_
 refine eqf_cons (by rfl) (by go_simp;rfl) (by go_simp;rfl) (by go_simp) ?_
 refine eqf_cons (by rfl) (by go_simp;rfl) (by go_simp;rfl) (by go_simp) ?_
 exact eqf_last (by rfl) (by go_simp;rfl) (by go_simp;rfl) (by go_simp)
end Go.Proofs.YtjopbfidjapmbaaGreatDoor.Q
end
