/- PART 8 OF A PROOF: Lean functions, and that the program computes them; written by hand and by a program. Not trusted: Lean checks it. -/
import Derived.Deep.DeepHandedRow
import Derived.Deep.DeepWitnessRowRef
import Derived.Deep.Grids
import Derived.LaidMore
import Derived.Lib.LaidIn
import Derived.Lib.LaidTab
import Derived.Lib.LaidU8T
import Derived.Lib.SmallJoins
import Derived.ProofKit
import Derived.SliceStrings
import Derived.Stop.LaidErr
import Derived.Test.YtpfbcepgmigeiaaGreatDoorRows
import Derived.Test.YtpfbcepgmigeiaaGreatDoorPa3
import Derived.Test.YtpfbcepgmigeiaaGreatDoorPa4
import Derived.Test.YtpfbcepgmigeiaaGreatDoorPa5
import Derived.Test.YtpfbcepgmigeiaaGreatDoorPa6
import Derived.Test.YtpfbcepgmigeiaaGreatDoorPa7
set_option linter.unusedVariables false
set_option linter.unusedSimpArgs false
section
namespace Go.Proofs.YtpfbcepgmigeiaaGreatDoor.Q
open Go.RowKit Go.Proofs.YtpfbcepgmigeiaaGreatDoorW.PrintWords Go.Proofs.YtpfbcepgmigeiaaGreatDoorW.PrintLast Go.Proofs.YtpfbcepgmigeiaaGreatDoorW.PrintMore
attribute [local go_sem] max2_int min2_int max_two min_two max_three min_three max_four min_four
set_option linter.unusedVariables false
set_option linter.unusedSimpArgs false
open Go.Proofs.YtpfbcepgmigeiaaGreatDoorS
theorem slices_Clone_string_string_info : (Tryz.prog.info? 9).map (fun i=>(i.zero,i.size,i.bytes)) = some (some (.string ⟨#[]⟩),1,16):=by kernel_rfl
def slices_Clone_string_string.f (l0 : List ByteArray) : Option (List ByteArray):=if l0.length < 8796093022208 then some l0 else none
set_option maxHeartbeats 8000000 in
set_option maxRecDepth 100000 in
theorem slices_Clone_string_string.calls (A0 : Option Addr) (c0 : Nat) (l0 : List ByteArray) (r : List ByteArray) (w : World) (hr0 : Kd.C Kd.string w A0 l0.length l0) (hc0 : l0.length ≤ c0) (h : slices_Clone_string_string.f l0 = some r) :
  Calls Tryz.prog 39 #[.slice A0 l0.length c0] w fun e w'=>∃ v0_ : Value,e = .returned (v0_) ∧ Kd.R Kd.string 9 w' w.heap.size (fun _=>True) v0_ r ∧ Below w.heap.size w w':=by
 obtain ⟨hl,rfl⟩:=guard_some h
 clear h
 cases A0 with
 | none =>
  have h0 : l0 = []:=by
   cases l0 with
   | nil=>rfl
   | cons x l=>obtain ⟨ad,e,_⟩:=hr0.2.2 (by simp);cases e
  subst h0
  have hnil:=fun (w : World) (e : TypeId) (a : Option Addr) (l c : Nat) (h : Tryz.prog.underlying 25 = some (.slice e))=>Lib.run_eql_slice_nil w 25 e a l c 0 0 h
  replace hnil:=fun (w : World) (a : Option Addr) (l c : Nat)=>hnil w _ a l c Tryz.underlying25
  go_enter Tryz.func39,Tryz.ntmps39
  go_wp2
  go_ret
  exact ⟨_,rfl,Kd.R_nil _ _ _ _ _,Below.refl _ _⟩
 | some ad =>
  have hnil:=fun (w : World) (e : TypeId) (a : Option Addr) (l c : Nat) (h : Tryz.prog.underlying 25 = some (.slice e))=>Lib.run_eql_slice_nil w 25 e a l c 0 0 h
  replace hnil:=fun (w : World) (a : Option Addr) (l c : Nat)=>hnil w _ a l c Tryz.underlying25
  have HR0:=Aside0.mk hr0
  clear hr0
  have HB:=Aside0.mk (Below.refl w.heap.size w)
  obtain ⟨y,hy⟩ : ∃ y_ : List ByteArray,y_ = (([] : List ByteArray)):=⟨_,rfl⟩
  have Ny:=Aside0.mk hy
  have hyl : y.length + l0.length < 8796093022208:=by rw [hy];simpa using hl
  have HL:=Aside0.mk hyl
  clear hyl hy hl
  go_enter Tryz.func39,Tryz.ntmps39
  go_wp2_with (first | ((with_reducible refine gate_dst (N:=5) rfl ?_);refine Kd.R_lit Kd.string _ 9 ?hg (N:=5) ?hd (xs:=([] : List ByteArray)) (inner:=[]) (ok:=fun _=>True) (okp:=fun _=>True) ?hr ?hp (fun _ hk=>hk) trivial (Below.refl _ _) (Nat.le_refl _) (by simp) ?_;(case hd=>rfl);(case hg=>rfl);(case hr=>first | (go_simp;done) | (go_simp;rfl));(case hp=>exact (Reps.none _ _));intro v1 w3 ho4 hb hg_ hnew_;clear hg_ hnew_;rw [← Ny.out] at ho4;have HO:=Aside0.mk ho4;have HB2:=Aside0.mk hb;clear hb ho4) | ((with_reducible refine gate_builtin (b:=.append) (xs:=#[.tmp 5,.tmp 6]) rfl ?_);at_builtin;refine Kd.R_append_rows Kd.string (w0:=w) w.heap.size rfl (.tmp 5) (.tmp 6) 25 9 (.string ⟨#[]⟩) 16 rfl Tryz.underlying25 slices_Clone_string_string_info rfl (by decide) (by omega) v1 y l0 _ _ _ (fun _=>True) (fun _=>False) rfl rfl ?aO ?aR (fun _ _ h=>h) (fun _ h=>h.elim) ?aF ?aB ?aS ?aL ?_;(case aR=>exact Kd.C_below HR0.out HB2.out);(case aB=>exact HB2.out);(case aF=>exact (fun _ _=>trivial));(case aO=>exact HO.out);(case aS=>exact HB2.out.size);(case aL=>have:=HL.out;omega);intro v2 w5 ho hb hg hat;have HB3:=Aside0.mk hb;have HO3:=Aside0.mk ho;clear hb hg hat ho))
  go_ret
  refine ⟨_,rfl,?_,HB3.out⟩
  have:=HO3.out
  rw [Ny.out,List.nil_append] at this
  exact this
end Go.Proofs.YtpfbcepgmigeiaaGreatDoor.Q
end
section
namespace Go.Proofs.YtpfbcepgmigeiaaGreatDoor.Q
open Go.RowKit Go.Proofs.YtpfbcepgmigeiaaGreatDoorW.PrintWords Go.Proofs.YtpfbcepgmigeiaaGreatDoorW.PrintLast Go.Proofs.YtpfbcepgmigeiaaGreatDoorW.PrintMore
attribute [local go_sem] max2_int min2_int max_two min_two max_three min_three max_four min_four
set_option linter.unusedVariables false
set_option linter.unusedSimpArgs false
open Go.Proofs.YtpfbcepgmigeiaaGreatDoorS
theorem page_line_1.calls (x : Nat) (hx : x ≤ 1114111) (w : World) :
  Calls Tryz.prog 67 #[.int .i32 x] w fun e w'=>e = .returned (.bool (podd x)) ∧ Below w.heap.size w w':=by
 by_cases h : (x : Int) < 32
 ·have hp : podd x = true:=by simp [podd];omega
  replace hp:=Lib.hid hp
  go_enter Tryz.func67,Tryz.ntmps67
  go_wp2
  go_ret
  rw [hp.out]
  exact ⟨rfl,Below.refl _ _⟩
 ·by_cases h7 : (x : Int) = 127
  ·have hp : podd x = true:=by simp [podd];omega
   have h7b : ((x : Int) == 127) = true:=by simp [h7]
   replace hp:=Lib.hid hp
   clear h7
   go_enter Tryz.func67,Tryz.ntmps67
   go_wp2
   go_ret
   rw [hp.out]
   exact ⟨rfl,Below.refl _ _⟩
  ·have hp : podd x = false:=by simp [podd];omega
   have h7b : ((x : Int) == 127) = false:=by simp [h7]
   replace hp:=Lib.hid hp
   clear h7
   go_enter Tryz.func67,Tryz.ntmps67
   go_wp2
   go_ret
   rw [hp.out]
   exact ⟨rfl,Below.refl _ _⟩
end Go.Proofs.YtpfbcepgmigeiaaGreatDoor.Q
end
section
namespace Go.Proofs.YtpfbcepgmigeiaaGreatDoor.Q
open Go.RowKit Go.Proofs.YtpfbcepgmigeiaaGreatDoorW.PrintWords Go.Proofs.YtpfbcepgmigeiaaGreatDoorW.PrintLast Go.Proofs.YtpfbcepgmigeiaaGreatDoorW.PrintMore
attribute [local go_sem] max2_int min2_int max_two min_two max_three min_three max_four min_four
set_option linter.unusedVariables false
set_option linter.unusedSimpArgs false
open Go.Proofs.YtpfbcepgmigeiaaGreatDoorS
def uline (s : ByteArray) : Bool:=decide (s.size ≤ 960) && (uvalid s && (!(decide (0 ≤ Lib.idxFunc podd true s)) && (Lib.trimB s.data.toList 32 == s.toList)))
def page_line.f (a0 : ByteArray) : Option Bool:=if a0.size ≤ 140737488351232 then some (uline a0) else none
set_option maxHeartbeats 4000000 in
set_option maxRecDepth 1000000 in
theorem page_line.calls (a0 : ByteArray) (r : Bool) (w : World) (hT : Tabs w) (h : page_line.f a0 = some r) :
  Calls Tryz.prog 40 #[.string a0] w fun e w'=>e = .returned (.bool r) ∧ Below w.heap.size w w':=by
 obtain ⟨hs,rfl⟩:=guard_some h
 clear h
 by_cases h1 : a0.size ≤ 960
 ·cases h2 : uvalid a0 with
  | false =>
   have hr : uline a0 = false:=by simp [uline,h2]
   have hv : utf_Valid.f a0 = some false:=by unfold utf_Valid.f;rw [if_pos hs,h2]
   replace hr:=Lib.hid hr
   replace hv:=Lib.hid hv
   clear h2
   go_enter Tryz.func40,Tryz.ntmps40
   go_wp2_with (go_at_call 68;refine (utf_Valid.calls _ _ _ hT hv.out).mono ?_;rintro e w3 ⟨rfl,hb3⟩)
   go_ret
   rw [hr.out]
   exact ⟨rfl,hb3⟩
  | true =>
   have hv : utf_Valid.f a0 = some true:=by unfold utf_Valid.f;rw [if_pos hs,h2]
   have hpg : ∀ w3,PredGrows Tryz.prog 67 #[] podd w3:=fun w3 W x hx hb=>page_line_1.calls x hx W
   have hpg:=Lib.hid hpg
   replace hv:=Lib.hid hv
   by_cases h3 : 0 ≤ Lib.idxFunc podd true a0
   ·have hr : uline a0 = false:=by simp [uline,h3]
    have h3b : decide (0 ≤ Lib.idxFunc podd true a0) = true:=by simp [h3]
    replace hr:=Lib.hid hr
    clear h2 h3
    go_enter Tryz.func40,Tryz.ntmps40
    go_wp2_with (first | (go_at_call 68;refine (utf_Valid.calls _ _ _ hT hv.out).mono ?_;rintro e w3 ⟨rfl,hb3⟩) | (go_at_call 69;refine (Tryz.strings_ContainsFunc_grows 67 #[] (enters_of Tryz.func67 (by kernel_rfl) rfl) podd _ _ (hpg.out _)).mono ?_;rintro e w4 ⟨rfl,hb4⟩))
    go_ret
    rw [hr.out]
    exact ⟨rfl,hb3.trans (hb4.mono hb3.size)⟩
   ·have h3b : decide (0 ≤ Lib.idxFunc podd true a0) = false:=by simp [h3]
    have hr : uline a0 = (Lib.trimB a0.data.toList 32 == a0.toList):=by simp [uline,h1,h2,h3b]
    replace hr:=Lib.hid hr
    clear h2 h3
    have hsz : a0.size ≤ 9223372036854775807:=by omega
    go_enter Tryz.func40,Tryz.ntmps40
    go_wp2_with (first | (go_at_call 68;refine (utf_Valid.calls _ _ _ hT hv.out).mono ?_;rintro e w3 ⟨rfl,hb3⟩) | (go_at_call 69;refine (Tryz.strings_ContainsFunc_grows 67 #[] (enters_of Tryz.func67 (by kernel_rfl) rfl) podd _ _ (hpg.out _)).mono ?_;rintro e w4 ⟨rfl,hb4⟩) | (go_at_call 70;refine (Tryz.strings_Trim_one a0 32 (by decide) _ hsz).mono ?_;rintro e w5 ⟨rfl,hb5⟩))
    go_ret
    rw [hr.out]
    refine ⟨rfl,?_⟩
    rcases hb5 with rfl | rfl
    ·exact hb3.trans (hb4.mono hb3.size)
    ·exact (hb3.trans (hb4.mono hb3.size)).drew
 ·have hr : uline a0 = false:=by simp [uline,h1]
  replace hr:=Lib.hid hr
  have h1' : 960 < a0.size:=by omega
  clear h1
  go_enter Tryz.func40,Tryz.ntmps40
  go_wp2
  go_ret
  rw [hr.out]
  exact ⟨rfl,Below.refl _ _⟩
end Go.Proofs.YtpfbcepgmigeiaaGreatDoor.Q
end
section
namespace Go.Proofs.YtpfbcepgmigeiaaGreatDoor.Q
open Go.RowKit Go.Proofs.YtpfbcepgmigeiaaGreatDoorW.PrintWords Go.Proofs.YtpfbcepgmigeiaaGreatDoorW.PrintLast Go.Proofs.YtpfbcepgmigeiaaGreatDoorW.PrintMore
set_option linter.unusedVariables false
open Go.Proofs.YtpfbcepgmigeiaaGreatDoorS
def pbad1 (bl : List Bool) (cells : List ByteArray) (i : Nat) : Bool:=!(rdOf ByteArray.empty cells (i : Int)).toList.isEmpty && (rdOf false bl (i : Int) || !uletter (rdOf ByteArray.empty cells (i : Int)))
def pbad (bl : List Bool) (cells : List ByteArray) : Nat → Nat → Bool
  | 0,_=>false
  | d + 1,i=>pbad1 bl cells i || pbad bl cells d (i + 1)
def pcheck (title : ByteArray) (H W : Int) (bl ri be : List Bool) (cells clues : List ByteArray) : Int :=
  if gcheck H W bl ri be = 0 then (if cells.length = bl.length then (if pbad bl cells cells.length 0 then 33 else if clues.length = (slotsOf H W bl ri be).length then (if (clues ++ [title]).all uline then 0 else 221) else 160) else 51) else gcheck H W bl ri be
def Small (l : List ByteArray) : Prop:=∀ s ∈ l,s.size ≤ 1048576
theorem rdOf_mem {l : List ByteArray} {i : Nat} (h : i < l.length) : rdOf ByteArray.empty l (i : Int) ∈ l:=by
  have e : rdOf ByteArray.empty l (i : Int) = l[i]:=by simp [rdOf,List.getD_eq_getElem?_getD,h]
  rw [e];exact List.getElem_mem h
theorem Small.rd {l : List ByteArray} (h : Small l) {i : Nat} (hi : i < l.length) : (rdOf ByteArray.empty l (i : Int)).size ≤ 1048576:=h _ (rdOf_mem hi)
theorem toList_nil {l : List UInt8} : l.isEmpty = false ↔ ¬ l = []:=by cases l <;> simp
end Go.Proofs.YtpfbcepgmigeiaaGreatDoor.Q
end
section
namespace Go.Proofs.YtpfbcepgmigeiaaGreatDoor.Q
theorem at_ops0 {α : Type} (a : α) (l : List α) : (List.toArray (a :: l))[0]? = some a:=by simp
theorem at_ops1 {α : Type} (a b : α) (l : List α) : (List.toArray (a :: b :: l))[1]? = some b:=by simp
theorem at_ops2 {α : Type} (a b c : α) (l : List α) : (List.toArray (a :: b :: c :: l))[2]? = some c:=by simp
theorem at_ops3 {α : Type} (a b c d : α) (l : List α) : (List.toArray (a :: b :: c :: d :: l))[3]? = some d:=by simp
theorem at_ops4 {α : Type} (a b c d e : α) (l : List α) : (List.toArray (a :: b :: c :: d :: e :: l))[4]? = some e:=by simp
theorem at_ops5 {α : Type} (a b c d e f : α) (l : List α) : (List.toArray (a :: b :: c :: d :: e :: f :: l))[5]? = some f:=by simp
theorem at_ops6 {α : Type} (a b c d e f g : α) (l : List α) : (List.toArray (a :: b :: c :: d :: e :: f :: g :: l))[6]? = some g:=by simp
theorem at_ops7 {α : Type} (a b c d e f g h : α) (l : List α) : (List.toArray (a :: b :: c :: d :: e :: f :: g :: h :: l))[7]? = some h:=by simp
end Go.Proofs.YtpfbcepgmigeiaaGreatDoor.Q
end
section
namespace Go.Proofs.YtpfbcepgmigeiaaGreatDoor.Q
open Go.RowKit Go.Proofs.YtpfbcepgmigeiaaGreatDoorW.PrintWords Go.Proofs.YtpfbcepgmigeiaaGreatDoorW.PrintLast Go.Proofs.YtpfbcepgmigeiaaGreatDoorW.PrintMore
set_option linter.unusedVariables false
set_option linter.unusedSimpArgs false
open Go.Proofs.YtpfbcepgmigeiaaGreatDoorS
structure PuzR (A2 : Option Addr) (c2 : Nat) (bl : List Bool) (A3 : Option Addr) (c3 : Nat) (ri : List Bool) (A4 : Option Addr) (c4 : Nat) (be : List Bool) (A5 : Option Addr) (c5 : Nat) (cells : List ByteArray) (A6 : Option Addr) (c6 : Nat) (clues : List ByteArray) (w : World) : Prop where
  r2 : Kd.C Kd.bool w A2 bl.length bl
  k2 : bl.length ≤ c2
  r3 : Kd.C Kd.bool w A3 ri.length ri
  k3 : ri.length ≤ c3
  r4 : Kd.C Kd.bool w A4 be.length be
  k4 : be.length ≤ c4
  r5 : Kd.C Kd.string w A5 cells.length cells
  k5 : cells.length ≤ c5
  r6 : Kd.C Kd.string w A6 clues.length clues
  k6 : clues.length ≤ c6
theorem PuzR.below {A2 : Option Addr} {c2 : Nat} {bl : List Bool} {A3 : Option Addr} {c3 : Nat} {ri : List Bool} {A4 : Option Addr} {c4 : Nat} {be : List Bool} {A5 : Option Addr} {c5 : Nat} {cells : List ByteArray} {A6 : Option Addr} {c6 : Nat} {clues : List ByteArray} {w w' : World} (h : PuzR A2 c2 bl A3 c3 ri A4 c4 be A5 c5 cells A6 c6 clues w) (hb : Below w.heap.size w w') : PuzR A2 c2 bl A3 c3 ri A4 c4 be A5 c5 cells A6 c6 clues w' :=
  ⟨Kd.C_below h.r2 hb,h.k2,Kd.C_below h.r3 hb,h.k3,Kd.C_below h.r4 hb,h.k4,Kd.C_below h.r5 hb,h.k5,Kd.C_below h.r6 hb,h.k6⟩
theorem PuzR.grid {H W : Int} {A2 : Option Addr} {c2 : Nat} {bl : List Bool} {A3 : Option Addr} {c3 : Nat} {ri : List Bool} {A4 : Option Addr} {c4 : Nat} {be : List Bool} {A5 : Option Addr} {c5 : Nat} {cells : List ByteArray} {A6 : Option Addr} {c6 : Nat} {clues : List ByteArray} {w : World} (h : PuzR A2 c2 bl A3 c3 ri A4 c4 be A5 c5 cells A6 c6 clues w) (hg : gcheck H W bl ri be = 0) : GridIs H W A2 c2 bl A3 c3 ri A4 c4 be w:=⟨h.r2,h.k2,h.r3,h.k3,h.r4,h.k4,hg⟩
structure ShtR (A7 : Option Addr) (c7 : Nat) (sc : List ByteArray) (A8 : Option Addr) (c8 : Nat) (ss : List Bool) (w : World) : Prop where
  r7 : Kd.C Kd.string w A7 sc.length sc
  k7 : sc.length ≤ c7
  r8 : Kd.C Kd.bool w A8 ss.length ss
  k8 : ss.length ≤ c8
theorem ShtR.below {A7 : Option Addr} {c7 : Nat} {sc : List ByteArray} {A8 : Option Addr} {c8 : Nat} {ss : List Bool} {w w' : World} (h : ShtR A7 c7 sc A8 c8 ss w) (hb : Below w.heap.size w w') : ShtR A7 c7 sc A8 c8 ss w' :=
  ⟨Kd.C_below h.r7 hb,h.k7,Kd.C_below h.r8 hb,h.k8⟩
structure PuzS (title : ByteArray) (cells clues : List ByteArray) : Prop where
  t : title.size ≤ 1048576
  s : Small cells
  c : Small clues
  l : cells.length ≤ 1048576
  m : clues.length ≤ 1048576
theorem pbad_step {bl : List Bool} {cells : List ByteArray} {n i : Nat} (hi : i < n) : pbad bl cells (n - i) i = (pbad1 bl cells i || pbad bl cells (n - (i + 1)) (i + 1)):=by
  obtain ⟨d,hd⟩ : ∃ d,n - i = d + 1:=⟨n - i - 1,by omega⟩
  rw [hd,show n - (i + 1) = d by omega]
  rfl
set_option maxHeartbeats 8000000 in
set_option maxRecDepth 1000000 in
theorem page_calls {title : ByteArray} {H W : Int} {A2 : Option Addr} {c2 : Nat} {bl : List Bool} {A3 : Option Addr} {c3 : Nat} {ri : List Bool} {A4 : Option Addr} {c4 : Nat} {be : List Bool} {A5 : Option Addr} {c5 : Nat} {cells : List ByteArray} {A6 : Option Addr} {c6 : Nat} {clues : List ByteArray} {w : World} (hT : Tabs w) (hP : PuzR A2 c2 bl A3 c3 ri A4 c4 be A5 c5 cells A6 c6 clues w) (hz : PuzS title cells clues) :
    Calls Tryz.prog 13 #[.agg #[.string title,.int .i64 H,.int .i64 W,.slice A2 bl.length c2,.slice A3 ri.length c3,.slice A4 be.length c4,.slice A5 cells.length c5,.slice A6 clues.length c6]] w fun e w'=>e = .returned (.int .i64 (pcheck title H W bl ri be cells clues)) ∧ Below w.heap.size w w':=by
  have hx:=box1 w (.cells #[.string title,.int .i64 H,.int .i64 W,.slice A2 bl.length c2,.slice A3 ri.length c3,.slice A4 be.length c4,.slice A5 cells.length c5,.slice A6 clues.length c6] 27)
  replace hx:=Lib.hid hx
  have hu27:=Tryz.underlying27
  have hu24:=Tryz.underlying24
  by_cases hg : gcheck H W bl ri be = 0
  · have hgk:=grid_Check_eq H W bl ri be (bl.length + 3) (Nat.le_refl _)
    rw [hg] at hgk
    replace hgk:=Lib.hid hgk
    have tg0 : ((0 : Int) != 0) = false:=rfl
    have hz0:=hz
    replace hz:=Lib.hid hz
    by_cases hs : cells.length = bl.length
    · have t1 : ((cells.length : Int) != (bl.length : Int)) = false:=by rw [hs];simp
      have t1b : (cells.length != bl.length) = false:=by rw [hs];simp
      have hv : pcheck title H W bl ri be cells clues = (if pbad bl cells cells.length 0 then 33 else if clues.length = (slotsOf H W bl ri be).length then (if (clues ++ [title]).all uline then 0 else 221) else 160):=by unfold pcheck;rw [if_pos hg,if_pos hs]
      rw [hv]
      clear hv
      obtain ⟨V,hV0⟩ : ∃ V,(if pbad bl cells cells.length 0 then (33 : Int) else if clues.length = (slotsOf H W bl ri be).length then (if (clues ++ [title]).all uline then 0 else 221) else 160) = V:=⟨_,rfl⟩
      rw [hV0]
      replace hV0:=Lib.hid hV0
      replace hg:=Lib.hid hg
      replace hs:=Lib.hid hs
      go_enter Tryz.func13,Tryz.ntmps13
      go_wp2_with (first
        | (go_at_call 37;go_must (have hPx:=hP.below hx.out.2;refine (grid_Check.calls _ _ _ _ _ _ _ _ _ _ _ _ _ _ hPx.r2 hPx.k2 hPx.r3 hPx.k3 hPx.r4 hPx.k4 hgk.out).mono ?_;clear hPx;rintro e w3 ⟨rfl,hb3⟩;have hB3:=Lib.hid (below_step hx.out.2 hb3);have bP:=Lib.hid (blk_below hx.out.1 hb3);have p3:=cells8 bP.out;clear hb3)))
      go_loopw [25] (fun v4 wr=>∃ (i : Nat) (q : Int),v4 = .int .i64 q ∧ Hid (q = i ∧ i ≤ cells.length) ∧ Hid (pbad bl cells cells.length 0 = pbad bl cells (cells.length - i) i) ∧ Hid (wr.heap[w.heap.size]? = some (.cells #[.string title,.int .i64 H,.int .i64 W,.slice A2 bl.length c2,.slice A3 ri.length c3,.slice A4 be.length c4,.slice A5 cells.length c5,.slice A6 clues.length c6] 27 (0,0))) ∧ Hid (Below w.heap.size w wr)) (fun v4 _=>cells.length - (intOf v4).toNat)
      case atStart=>exact ⟨0,0,rfl,Lib.hid ⟨rfl,Nat.zero_le _⟩,Lib.hid rfl,bP,hB3⟩
      case round =>
        clear hB3 bP p3 t1 t1b
        obtain ⟨i,q,rfl,hq,hpb,bP,hB⟩:=hrel
        have p4:=cells8 bP.out
        have y4:=blk_lt bP.out
        by_cases hlt : i < cells.length
        · have hq0 : 0 ≤ q:=by have:=hq.out;omega
          have hq1 : q < (cells.length : Int):=by have:=hq.out;omega
          have hq2 : q < (bl.length : Int):=by have:=hs.out;omega
          have hq3 : q < 1048576:=by have:=hz.out.l;omega
          obtain ⟨ad,eA,zx⟩:=Kd.at_string (hP.below hB.out).r5 q hq0 hq1
          obtain ⟨ad2,eA2,zb⟩:=Kd.at_bool (hP.below hB.out).r2 q hq0 hq2
          cases eA
          cases eA2
          obtain ⟨xa,hxa⟩ : ∃ x,rdOf ByteArray.empty cells q = x:=⟨_,rfl⟩
          obtain ⟨bb,hbb⟩ : ∃ x,rdOf false bl q = x:=⟨_,rfl⟩
          have hxs : xa.size ≤ 1048576:=by rw [← hxa,hq.out.1];exact hz.out.s.rd hlt
          have hst:=pbad_step (bl:=bl) (cells:=cells) hlt
          have e1 : pbad1 bl cells i = (!xa.toList.isEmpty && (bb || !uletter xa)):=by unfold pbad1;rw [← hq.out.1,hxa,hbb]
          rw [e1] at hst
          rw [hxa] at zx
          rw [hbb] at zb
          clear hxa hbb e1
          by_cases hne : xa.toList = []
          · have te : xa.toList.isEmpty = true:=by rw [hne];rfl
            rw [te] at hst
            have hE : pbad bl cells cells.length 0 = pbad bl cells (cells.length - (i + 1)) (i + 1):=by rw [hpb.out,hst];rfl
            replace hE:=Lib.hid hE
            replace hlt:=Lib.hid hlt
            clear hst hne hpb
            go_wp2
            refine ⟨⟨i + 1,q + 1,rfl,Lib.hid ⟨by have:=hq.out;omega,hlt.out⟩,hE,bP,hB⟩,?_⟩
            simp only [intOf];have:=hq.out;have:=hlt.out;omega
          · have te : xa.toList.isEmpty = false:=toList_nil.2 hne
            rw [te] at hst
            clear hne
            cases bb with
            | true =>
              have hE : pbad bl cells cells.length 0 = true:=by rw [hpb.out,hst];rfl
              rw [hE] at hpb
              replace hE:=Lib.hid hE
              clear hst hpb
              go_wp2
              go_ret
              exact ⟨by rw [← hV0.out,hE.out];rfl,hB.out⟩
            | false =>
              cases hle : uletter xa with
              | false =>
                have hE : pbad bl cells cells.length 0 = true:=by rw [hpb.out,hst,hle];rfl
                replace hE:=Lib.hid hE
                replace hle:=Lib.hid hle
                clear hst hpb
                go_wp2_with (first
                  | (go_at_call 38;go_must (refine (page_letter.calls xa _ _ (by unfold page_letter.f;rw [if_pos (by omega),hle.out])).mono ?_;rintro e w5 ⟨rfl,hb5⟩)))
                go_ret
                exact ⟨by rw [← hV0.out,hE.out];rfl,below_step hB.out hb5⟩
              | true =>
                have hE : pbad bl cells cells.length 0 = pbad bl cells (cells.length - (i + 1)) (i + 1):=by rw [hpb.out,hst,hle];rfl
                replace hE:=Lib.hid hE
                replace hle:=Lib.hid hle
                replace hlt:=Lib.hid hlt
                clear hst hpb
                go_wp2_with (first
                  | (go_at_call 38;go_must (refine (page_letter.calls xa _ _ (by unfold page_letter.f;rw [if_pos (by omega),hle.out])).mono ?_;rintro e w5 ⟨rfl,hb5⟩)))
                refine ⟨⟨i + 1,q + 1,rfl,Lib.hid ⟨by have:=hq.out;omega,hlt.out⟩,hE,Lib.hid (blk_below bP.out hb5),Lib.hid (below_step hB.out hb5)⟩,?_⟩
                simp only [intOf];have:=hq.out;have:=hlt.out;omega
        · have hge : ¬ q < (cells.length : Int):=by have:=hq.out;omega
          have hE : pbad bl cells cells.length 0 = false:=by rw [hpb.out,show cells.length - i = 0 by have:=hq.out;omega];rfl
          clear hpb
          obtain ⟨L,hL⟩ : ∃ L,slotsOf H W bl ri be = L:=⟨_,rfl⟩
          replace hE:=Lib.hid hE
          replace hL:=Lib.hid hL
          obtain ⟨q0,q1,q2,q3,q4,q5,q6,q7⟩:=p4
          go_wp2
          refine wp_region_noPanic ?_
          refine wp_region_held_drew (S:=(fun w'=>w'.cell? ⟨w.heap.size,1,none⟩ = some (.int .i64 H) ∧ w'.cell? ⟨w.heap.size,2,none⟩ = some (.int .i64 W) ∧ w'.cell? ⟨w.heap.size,3,none⟩ = some (.slice A2 bl.length c2) ∧ w'.cell? ⟨w.heap.size,4,none⟩ = some (.slice A3 ri.length c3) ∧ w'.cell? ⟨w.heap.size,5,none⟩ = some (.slice A4 be.length c4) ∧ w'.cell? ⟨w.heap.size,7,none⟩ = some (.slice A6 clues.length c6))) (by kernel_rfl) ?s1 (fun hHeld=>?_)
          case s1=>((try dsimp only);go_keep)
          refine wpAnyH_take (i:=0) (oi:=?q0oi) (v:=?q0v) ?q0ho ?q0k1 ?q0k2 ?q0k3 (fun _ _ _ h=>h) (Or.inl ⟨?q0kw,?q0hy⟩) hHeld ?q0rest
          case q0ho=>exact at_ops0 _ _
          case q0k1=>kernel_rfl
          case q0k2=>kernel_rfl
          case q0k3=>kernel_rfl
          case q0kw=>rfl
          case q0hy=>(intro w9 hS9;(try dsimp only at hS9);go_simp;try with_reducible rfl)
          try simp only [Act.put,List.setIfInBounds_toArray,List.set_cons_zero,List.set_cons_succ]
          refine wpAnyH_take (i:=1) (oi:=?q1oi) (v:=?q1v) ?q1ho ?q1k1 ?q1k2 ?q1k3 (fun _ _ _ h=>h) (Or.inl ⟨?q1kw,?q1hy⟩) hHeld ?q1rest
          case q1ho=>exact at_ops1 _ _ _
          case q1k1=>kernel_rfl
          case q1k2=>kernel_rfl
          case q1k3=>kernel_rfl
          case q1kw=>rfl
          case q1hy=>(intro w9 hS9;(try dsimp only at hS9);go_simp;try with_reducible rfl)
          try simp only [Act.put,List.setIfInBounds_toArray,List.set_cons_zero,List.set_cons_succ]
          refine wpAnyH_take (i:=2) (oi:=?q2oi) (v:=?q2v) ?q2ho ?q2k1 ?q2k2 ?q2k3 (fun _ _ _ h=>h) (Or.inl ⟨?q2kw,?q2hy⟩) hHeld ?q2rest
          case q2ho=>exact at_ops2 _ _ _ _
          case q2k1=>kernel_rfl
          case q2k2=>kernel_rfl
          case q2k3=>kernel_rfl
          case q2kw=>rfl
          case q2hy=>(intro w9 hS9;(try dsimp only at hS9);go_simp;try with_reducible rfl)
          try simp only [Act.put,List.setIfInBounds_toArray,List.set_cons_zero,List.set_cons_succ]
          refine wpAnyH_take (i:=3) (oi:=?q3oi) (v:=?q3v) ?q3ho ?q3k1 ?q3k2 ?q3k3 (fun _ _ _ h=>h) (Or.inl ⟨?q3kw,?q3hy⟩) hHeld ?q3rest
          case q3ho=>exact at_ops3 _ _ _ _ _
          case q3k1=>kernel_rfl
          case q3k2=>kernel_rfl
          case q3k3=>kernel_rfl
          case q3kw=>rfl
          case q3hy=>(intro w9 hS9;(try dsimp only at hS9);go_simp;try with_reducible rfl)
          try simp only [Act.put,List.setIfInBounds_toArray,List.set_cons_zero,List.set_cons_succ]
          refine wpAnyH_take (i:=4) (oi:=?q4oi) (v:=?q4v) ?q4ho ?q4k1 ?q4k2 ?q4k3 (fun _ _ _ h=>h) (Or.inl ⟨?q4kw,?q4hy⟩) hHeld ?q4rest
          case q4ho=>exact at_ops4 _ _ _ _ _ _
          case q4k1=>kernel_rfl
          case q4k2=>kernel_rfl
          case q4k3=>kernel_rfl
          case q4kw=>rfl
          case q4hy=>(intro w9 hS9;(try dsimp only at hS9);go_simp;try with_reducible rfl)
          try simp only [Act.put,List.setIfInBounds_toArray,List.set_cons_zero,List.set_cons_succ]
          refine wpAnyH_ready (rs:=[5]) (by kernel_rfl) (by simp) ?_
          refine AllReadyH.cons (at_ops5 _ _ _ _ _ _ _) (fun K hK=>?_) AllReadyH.nil
          go_simp
          (go_at_call 14;have hPy:=hP.below (below_drew hB.out);refine (slots_List.calls _ _ _ _ _ _ _ _ _ _ _ _ _ hPy.r2 hPy.k2 hPy.r3 hPy.k3 hPy.r4 hPy.k4 (show slots_List.f H W bl ri be = some L by unfold slots_List.f;rw [hL.out])).mono ?_;clear hPy;rintro e w6 ⟨vL,rfl,hLr,hbL⟩;obtain ⟨AL,cL,rfl⟩:=Kd.S_slice hLr)
          refine hK.out _ _ ?r5 (fun hHeld=>?_)
          case r5=>exact ⟨pw_cell_below hbL q1,pw_cell_below hbL q2,pw_cell_below hbL q3,pw_cell_below hbL q4,pw_cell_below hbL q5,pw_cell_below hbL q7⟩
          clear hK K
          try simp only [Act.put,List.setIfInBounds_toArray,List.set_cons_zero,List.set_cons_succ]
          refine wpAnyH_take (i:=6) (oi:=?q6oi) (v:=?q6v) ?q6ho ?q6k1 ?q6k2 ?q6k3 (fun _ _ _ h=>h) (Or.inl ⟨?q6kw,?q6hy⟩) hHeld ?q6rest
          case q6ho=>exact at_ops6 _ _ _ _ _ _ _ _
          case q6k1=>kernel_rfl
          case q6k2=>kernel_rfl
          case q6k3=>kernel_rfl
          case q6kw=>rfl
          case q6hy=>(intro w9 hS9;(try dsimp only at hS9);go_simp;try with_reducible rfl)
          try simp only [Act.put,List.setIfInBounds_toArray,List.set_cons_zero,List.set_cons_succ]
          refine wpAnyH_take (i:=7) (oi:=?q7oi) (v:=?q7v) ?q7ho ?q7k1 ?q7k2 ?q7k3 (fun _ _ _ h=>h) (Or.inl ⟨?q7kw,?q7hy⟩) hHeld ?q7rest
          case q7ho=>exact at_ops7 _ _ _ _ _ _ _ _ _
          case q7k1=>kernel_rfl
          case q7k2=>kernel_rfl
          case q7k3=>kernel_rfl
          case q7kw=>rfl
          case q7hy=>(intro w9 hS9;(try dsimp only at hS9);go_simp;try with_reducible rfl)
          try simp only [Act.put,List.setIfInBounds_toArray,List.set_cons_zero,List.set_cons_succ]
          refine wpAnyH_done (by kernel_rfl) ?_ _
          refine NoPanic.normal ?_
          clear q0 q1 q2 q3 q4 q5 q6 q7
          have hB6:=Lib.hid (below_step (below_drew hB.out) hbL)
          have bP6:=Lib.hid (blk_below (blk_drew bP.out) hbL)
          have p6:=cells8 bP6.out
          clear hLr hbL
          by_cases hcl : clues.length = L.length
          · have t5 : ((clues.length : Int) != (L.length : Int)) = false:=by rw [hcl];simp
            have t5b : (clues.length != L.length) = false:=by rw [hcl];simp
            have hV : V = (if (clues ++ [title]).all uline then 0 else 221):=by
              rw [← hV0.out,hE.out,hL.out,if_pos hcl]
              rfl
            obtain ⟨l,hl⟩ : ∃ l,clues ++ [title] = l:=⟨_,rfl⟩
            rw [hl] at hV
            replace hl:=Lib.hid hl
            replace hV:=Lib.hid hV
            replace hcl:=Lib.hid hcl
            go_wp2
            refine start_ (n:=9) (S:=fun w'=>w'.cell? ⟨w.heap.size,0,none⟩ = some (.string title) ∧ w'.cell? ⟨w.heap.size,7,none⟩ = some (.slice A6 clues.length c6)) (ds:=[]) #[false,false,false,false,false,false,false,false,false] (by kernel_rfl) rfl rfl ⟨(blk_cell (blk_drew bP6.out) 0).trans rfl,(blk_cell (blk_drew bP6.out) 7).trans rfl⟩ (fun hHeld=>?_)
            have bP:=blk_drew bP6.out
            have hB:=below_drew hB6.out
            generalize w6.drew = w7 at bP hB hHeld ⊢
            have hcm:=hz0.m
            refine pure_ (i:=0) (N:=some 54) (v:=?_) (a':=?_) #[true,false,false,false,false,false,false,false,false] rfl rfl (by kernel_rfl) (fun _ _ _ h=>h) (Or.inl ⟨by rfl,?_⟩) ?_ ?_
            rotate_left
            · intro w';go_simp;try with_reducible rfl
            rotate_left
            · simp only [Act.put,List.setIfInBounds_toArray,List.set_cons_zero,List.set_cons_succ,i64_w,i32_w];rfl
            refine pure_ (i:=3) (N:=some 57) (v:=?_) (a':=?_) #[true,false,false,true,false,false,false,false,false] rfl rfl (by kernel_rfl) (fun _ _ _ h=>h) (Or.inl ⟨by rfl,?_⟩) ?_ ?_
            rotate_left
            · intro w';go_simp;try with_reducible rfl
            rotate_left
            · simp only [Act.put,List.setIfInBounds_toArray,List.set_cons_zero,List.set_cons_succ,i64_w,i32_w];rfl
            refine take_ (i:=1) (N:=some 55) (v:=?_) (a':=?_) #[true,true,false,true,false,false,false,false,false] rfl rfl (by kernel_rfl) (fun _ _ _ h=>h) (Or.inl ⟨by rfl,?_⟩) hHeld ?_ ?_
            rotate_left
            · intro w' s0;(try dsimp only at s0);go_simp;try with_reducible rfl
            rotate_left
            · simp only [Act.put,List.setIfInBounds_toArray,List.set_cons_zero,List.set_cons_succ,i64_w,i32_w];rfl
            refine take_ (i:=4) (N:=some 58) (v:=?_) (a':=?_) #[true,true,false,true,true,false,false,false,false] rfl rfl (by kernel_rfl) (fun _ _ _ h=>h) (Or.inl ⟨by rfl,?_⟩) hHeld ?_ ?_
            rotate_left
            · intro w' s0;(try dsimp only at s0);go_simp;try with_reducible rfl
            rotate_left
            · simp only [Act.put,List.setIfInBounds_toArray,List.set_cons_zero,List.set_cons_succ,i64_w,i32_w];rfl
            refine pure_ (i:=8) (N:=some 62) (v:=?_) (a':=?_) #[true,true,false,true,true,false,false,false,true] rfl rfl (by kernel_rfl) (fun _ _ _ h=>h) (Or.inl ⟨by rfl,?_⟩) ?_ ?_
            rotate_left
            · intro w';go_simp;try with_reducible rfl
            rotate_left
            · simp only [Act.put,List.setIfInBounds_toArray,List.set_cons_zero,List.set_cons_succ,i64_w,i32_w];rfl
            refine two_ (i:=2) (j:=5) (Ni:=some 56) (Nj:=some 59) #[true,true,true,true,true,false,false,false,true] #[true,true,false,true,true,true,false,false,true] rfl rfl rfl rfl (by kernel_rfl) (by decide) (by decide) (fun K hK=>?_) (fun K hK=>?_)
            · refine goes_ Tryz.func39 (by kernel_rfl) rfl #[.slice A6 clues.length c6] (by rfl) rfl rfl (by first | (go_simp;done) | (go_simp;rfl)) ?_
              refine (slices_Clone_string_string.calls _ _ clues clues _ (hP.below hB).r6 hP.k6 (by unfold slices_Clone_string_string.f;rw [if_pos (by omega)])).mono ?_
              rintro e _ ⟨v2,rfl,ho,hb⟩
              have RX:=Kd.R_lower ho (below_size hB)
              have bP:=blk_below bP hb
              have hB:=below_step hB hb
              clear ho hb
              obtain ⟨B2,b2,rfl⟩:=Kd.R_slice RX
              refine ⟨_,rfl,?_⟩
              refine hK.out _ _ ⟨(blk_cell bP 0).trans rfl,(blk_cell bP 7).trans rfl⟩ (fun hHeld=>?_)
              clear hK K
              refine norm_ (a':=?_) ?_ ?_
              rotate_left
              · show Act.put _ (some 56) _ = _
                simp only [Act.put,List.setIfInBounds_toArray,List.set_cons_zero,List.set_cons_succ,i64_w,i32_w]
                rfl
              refine one_ (i:=5) (N:=some 59) #[true,true,true,true,true,true,false,false,true] rfl rfl (by kernel_rfl) (by decide) (fun K hK=>?_)
              refine Kd.R_lit_step Kd.string _ 9 ?hg (N:=59) ?hd (xs:=([title] : List ByteArray)) (inner:=[.string title]) (ok:=fun _=>True) (okp:=fun _=>True) ?hr ?hp (fun _ hk=>hk) trivial (Below.refl _ _) (Nat.le_refl _) (by simp) ?_;(case hd=>rfl);(case hg=>rfl);(case hr=>first | (go_simp;done) | (go_simp;rfl));(case hp=>exact (Reps.one (show Kd.M Kd.string _ _ _ title [.string title] from rfl) (Reps.none _ _)))
              intro v5 _ ho hb _ _
              have RY:=Kd.R_lower ho (below_size hB)
              have RX:=Kd.R_below RX hb
              have bP:=blk_below bP hb
              have hB:=below_step hB hb
              clear ho hb
              obtain ⟨B5,b5,rfl⟩:=Kd.R_slice RY
              refine hK.out _ _ ⟨(blk_cell bP 0).trans rfl,(blk_cell bP 7).trans rfl⟩ (fun hHeld=>?_)
              clear hK K
              refine norm_ (a':=?_) ?_ ?_
              rotate_left
              · show Act.put _ (some 59) _ = _
                simp only [Act.put,List.setIfInBounds_toArray,List.set_cons_zero,List.set_cons_succ,i64_w,i32_w]
                rfl
              refine one_ (i:=6) (N:=some 60) #[true,true,true,true,true,true,true,false,true] rfl rfl (by kernel_rfl) (by decide) (fun K hK=>?_)
              refine Kd.R_append_rows_step Kd.string (w0:=w) w.heap.size (by rfl) (.tmp 56) (.tmp 59) 25 9 (.string ⟨#[]⟩) 16 rfl Tryz.underlying25 str_info rfl (by decide) (by decide) (.slice B2 clues.length b2) clues [title] _ _ _ (fun _=>True) (fun _=>False) rfl rfl ?aO ?aR (fun _ _ h=>h) (fun _ h=>h.elim) ?aF ?aB ?aS ?aL ?_
              (case aR=>exact (Kd.R_reads' RY).2.2)
              (case aB=>exact hB)
              (case aF=>exact (fun _ _=>trivial))
              (case aO=>exact RX)
              (case aS=>exact below_size hB)
              (case aL=>have:=hz0.m;simp only [List.length_singleton];omega)
              intro v6 w9 ho hb hg _
              rw [hl.out] at ho
              have bP:=blk_grown bP hg (Kd.R_ne RX bP (by decide))
              clear RX RY hg
              obtain ⟨B6,b6,rfl⟩:=Kd.R_slice ho
              refine hK.out _ _ ⟨(blk_cell bP 0).trans rfl,(blk_cell bP 7).trans rfl⟩ (fun hHeld=>?_)
              clear hK K
              refine norm_ (a':=?_) ?_ ?_
              rotate_left
              · show Act.put _ (some 60) _ = _
                simp only [Act.put,List.setIfInBounds_toArray,List.set_cons_zero,List.set_cons_succ,i64_w,i32_w]
                rfl
              refine pure_ (i:=7) (N:=some 61) (v:=?_) (a':=?_) #[true,true,true,true,true,true,true,true,true] rfl rfl (by kernel_rfl) (fun _ _ _ h=>h) (Or.inl ⟨by rfl,?_⟩) ?_ ?_
              rotate_left
              · intro w';go_simp;try with_reducible rfl
              rotate_left
              · simp only [Act.put,List.setIfInBounds_toArray,List.set_cons_zero,List.set_cons_succ,i64_w,i32_w];rfl
              refine done_ (by kernel_rfl) ?_
              clear p6 hB6 bP6 bP hB
              have hls : ∀ s ∈ l,s.size ≤ 1048576:=by
                intro s hs
                rw [← hl.out] at hs
                rcases List.mem_append.1 hs with h | h
                · exact hz0.c s h
                · rw [List.mem_singleton.1 h];exact hz0.t
              have hll : l.length ≤ 1048577:=by rw [← hl.out,List.length_append,List.length_singleton];have:=hz0.m;omega
              replace hls:=Lib.hid hls
              replace ho:=Lib.hid ho
              go_wp2
              rw [t5,show ([title] : List ByteArray).length = 1 from rfl]
              go_loopw [62] (fun v5 wi=>∃ (j : Nat) (x : Int),v5 = .int .i64 x ∧ Hid (x = j ∧ j ≤ l.length) ∧ Hid (l.all uline = (l.drop j).all uline) ∧ Hid (Below w9.heap.size w9 wi)) (fun v5 _=>l.length - (intOf v5).toNat)
              case atStart=>exact ⟨0,0,rfl,Lib.hid ⟨rfl,Nat.zero_le _⟩,Lib.hid (by rw [List.drop_zero]),Lib.hid (Below.refl _ _)⟩
              case round =>
                obtain ⟨j,x,rfl,hj,ha,hBi⟩:=hrel
                by_cases hjl : j < l.length
                · have hx0 : 0 ≤ x:=by have:=hj.out;omega
                  have hx1 : x < (l.length : Int):=by have:=hj.out;omega
                  have hx3 : x < 1048577:=by omega
                  obtain ⟨ad,eA,zx⟩:=Kd.at_string (Kd.R_reads' (Kd.R_below ho.out hBi.out)).2.2 x hx0 hx1
                  cases eA
                  obtain ⟨xa,hxa⟩ : ∃ y,rdOf ByteArray.empty l x = y:=⟨_,rfl⟩
                  have e1 : l[j] = xa:=by rw [← hxa,hj.out.1];simp [rdOf,List.getD_eq_getElem?_getD,hjl]
                  have hxs : xa.size ≤ 1048576:=by rw [← e1];exact hls.out _ (List.getElem_mem _)
                  have ha2 : l.all uline = (uline xa && (l.drop (j + 1)).all uline):=by rw [ha.out,List.drop_eq_getElem_cons hjl,List.all_cons,e1]
                  rw [hxa] at zx
                  clear hxa e1 ha
                  have hTi:=tabs_below hT (below_step hb hBi.out)
                  cases hli : uline xa with
                  | false =>
                    have hE2 : l.all uline = false:=by rw [ha2,hli];rfl
                    replace hE2:=Lib.hid hE2
                    replace hli:=Lib.hid hli
                    clear ha2
                    go_wp2_with (first
                      | (go_at_call 40;go_must (refine (page_line.calls xa _ _ hTi (by unfold page_line.f;rw [if_pos (by omega),hli.out])).mono ?_;rintro e w8 ⟨rfl,hb8⟩)))
                    go_ret
                    exact ⟨by rw [hV.out,hE2.out];rfl,below_step (below_step hb hBi.out) hb8⟩
                  | true =>
                    have hE2 : l.all uline = (l.drop (j + 1)).all uline:=by rw [ha2,hli];rfl
                    replace hE2:=Lib.hid hE2
                    replace hli:=Lib.hid hli
                    replace hjl:=Lib.hid hjl
                    clear ha2
                    go_wp2_with (first
                      | (go_at_call 40;go_must (refine (page_line.calls xa _ _ hTi (by unfold page_line.f;rw [if_pos (by omega),hli.out])).mono ?_;rintro e w8 ⟨rfl,hb8⟩)))
                    refine ⟨⟨j + 1,x + 1,rfl,Lib.hid ⟨by have:=hj.out;omega,hjl.out⟩,hE2,Lib.hid (below_step hBi.out hb8)⟩,?_⟩
                    simp only [intOf];have:=hj.out;have:=hjl.out;omega
                · have hge2 : ¬ x < (l.length : Int):=by have:=hj.out;omega
                  have hE2 : l.all uline = true:=by rw [ha.out,List.drop_of_length_le (by omega)];rfl
                  replace hE2:=Lib.hid hE2
                  clear ha
                  go_wp2
                  go_ret
                  exact ⟨by rw [hV.out,hE2.out];rfl,below_step hb hBi.out⟩
            · refine Kd.R_lit_step Kd.string _ 9 ?hg (N:=59) ?hd (xs:=([title] : List ByteArray)) (inner:=[.string title]) (ok:=fun _=>True) (okp:=fun _=>True) ?hr ?hp (fun _ hk=>hk) trivial (Below.refl _ _) (Nat.le_refl _) (by simp) ?_;(case hd=>rfl);(case hg=>rfl);(case hr=>first | (go_simp;done) | (go_simp;rfl));(case hp=>exact (Reps.one (show Kd.M Kd.string _ _ _ title [.string title] from rfl) (Reps.none _ _)))
              intro v5 _ ho hb _ _
              have RY:=Kd.R_lower ho (below_size hB)
              have bP:=blk_below bP hb
              have hB:=below_step hB hb
              clear ho hb
              obtain ⟨B5,b5,rfl⟩:=Kd.R_slice RY
              refine hK.out _ _ ⟨(blk_cell bP 0).trans rfl,(blk_cell bP 7).trans rfl⟩ (fun hHeld=>?_)
              clear hK K
              refine norm_ (a':=?_) ?_ ?_
              rotate_left
              · show Act.put _ (some 59) _ = _
                simp only [Act.put,List.setIfInBounds_toArray,List.set_cons_zero,List.set_cons_succ,i64_w,i32_w]
                rfl
              refine one_ (i:=2) (N:=some 56) #[true,true,true,true,true,true,false,false,true] rfl rfl (by kernel_rfl) (by decide) (fun K hK=>?_)
              refine goes_ Tryz.func39 (by kernel_rfl) rfl #[.slice A6 clues.length c6] (by rfl) rfl rfl (by first | (go_simp;done) | (go_simp;rfl)) ?_
              refine (slices_Clone_string_string.calls _ _ clues clues _ (hP.below hB).r6 hP.k6 (by unfold slices_Clone_string_string.f;rw [if_pos (by omega)])).mono ?_
              rintro e _ ⟨v2,rfl,ho,hb⟩
              have RX:=Kd.R_lower ho (below_size hB)
              have RY:=Kd.R_below RY hb
              have bP:=blk_below bP hb
              have hB:=below_step hB hb
              clear ho hb
              obtain ⟨B2,b2,rfl⟩:=Kd.R_slice RX
              refine ⟨_,rfl,?_⟩
              refine hK.out _ _ ⟨(blk_cell bP 0).trans rfl,(blk_cell bP 7).trans rfl⟩ (fun hHeld=>?_)
              clear hK K
              refine norm_ (a':=?_) ?_ ?_
              rotate_left
              · show Act.put _ (some 56) _ = _
                simp only [Act.put,List.setIfInBounds_toArray,List.set_cons_zero,List.set_cons_succ,i64_w,i32_w]
                rfl
              refine one_ (i:=6) (N:=some 60) #[true,true,true,true,true,true,true,false,true] rfl rfl (by kernel_rfl) (by decide) (fun K hK=>?_)
              refine Kd.R_append_rows_step Kd.string (w0:=w) w.heap.size (by rfl) (.tmp 56) (.tmp 59) 25 9 (.string ⟨#[]⟩) 16 rfl Tryz.underlying25 str_info rfl (by decide) (by decide) (.slice B2 clues.length b2) clues [title] _ _ _ (fun _=>True) (fun _=>False) rfl rfl ?aO ?aR (fun _ _ h=>h) (fun _ h=>h.elim) ?aF ?aB ?aS ?aL ?_
              (case aR=>exact (Kd.R_reads' RY).2.2)
              (case aB=>exact hB)
              (case aF=>exact (fun _ _=>trivial))
              (case aO=>exact RX)
              (case aS=>exact below_size hB)
              (case aL=>have:=hz0.m;simp only [List.length_singleton];omega)
              intro v6 w9 ho hb hg _
              rw [hl.out] at ho
              have bP:=blk_grown bP hg (Kd.R_ne RX bP (by decide))
              clear RX RY hg
              obtain ⟨B6,b6,rfl⟩:=Kd.R_slice ho
              refine hK.out _ _ ⟨(blk_cell bP 0).trans rfl,(blk_cell bP 7).trans rfl⟩ (fun hHeld=>?_)
              clear hK K
              refine norm_ (a':=?_) ?_ ?_
              rotate_left
              · show Act.put _ (some 60) _ = _
                simp only [Act.put,List.setIfInBounds_toArray,List.set_cons_zero,List.set_cons_succ,i64_w,i32_w]
                rfl
              refine pure_ (i:=7) (N:=some 61) (v:=?_) (a':=?_) #[true,true,true,true,true,true,true,true,true] rfl rfl (by kernel_rfl) (fun _ _ _ h=>h) (Or.inl ⟨by rfl,?_⟩) ?_ ?_
              rotate_left
              · intro w';go_simp;try with_reducible rfl
              rotate_left
              · simp only [Act.put,List.setIfInBounds_toArray,List.set_cons_zero,List.set_cons_succ,i64_w,i32_w];rfl
              refine done_ (by kernel_rfl) ?_
              clear p6 hB6 bP6 bP hB
              have hls : ∀ s ∈ l,s.size ≤ 1048576:=by
                intro s hs
                rw [← hl.out] at hs
                rcases List.mem_append.1 hs with h | h
                · exact hz0.c s h
                · rw [List.mem_singleton.1 h];exact hz0.t
              have hll : l.length ≤ 1048577:=by rw [← hl.out,List.length_append,List.length_singleton];have:=hz0.m;omega
              replace hls:=Lib.hid hls
              replace ho:=Lib.hid ho
              go_wp2
              rw [t5,show ([title] : List ByteArray).length = 1 from rfl]
              go_loopw [62] (fun v5 wi=>∃ (j : Nat) (x : Int),v5 = .int .i64 x ∧ Hid (x = j ∧ j ≤ l.length) ∧ Hid (l.all uline = (l.drop j).all uline) ∧ Hid (Below w9.heap.size w9 wi)) (fun v5 _=>l.length - (intOf v5).toNat)
              case atStart=>exact ⟨0,0,rfl,Lib.hid ⟨rfl,Nat.zero_le _⟩,Lib.hid (by rw [List.drop_zero]),Lib.hid (Below.refl _ _)⟩
              case round =>
                obtain ⟨j,x,rfl,hj,ha,hBi⟩:=hrel
                by_cases hjl : j < l.length
                · have hx0 : 0 ≤ x:=by have:=hj.out;omega
                  have hx1 : x < (l.length : Int):=by have:=hj.out;omega
                  have hx3 : x < 1048577:=by omega
                  obtain ⟨ad,eA,zx⟩:=Kd.at_string (Kd.R_reads' (Kd.R_below ho.out hBi.out)).2.2 x hx0 hx1
                  cases eA
                  obtain ⟨xa,hxa⟩ : ∃ y,rdOf ByteArray.empty l x = y:=⟨_,rfl⟩
                  have e1 : l[j] = xa:=by rw [← hxa,hj.out.1];simp [rdOf,List.getD_eq_getElem?_getD,hjl]
                  have hxs : xa.size ≤ 1048576:=by rw [← e1];exact hls.out _ (List.getElem_mem _)
                  have ha2 : l.all uline = (uline xa && (l.drop (j + 1)).all uline):=by rw [ha.out,List.drop_eq_getElem_cons hjl,List.all_cons,e1]
                  rw [hxa] at zx
                  clear hxa e1 ha
                  have hTi:=tabs_below hT (below_step hb hBi.out)
                  cases hli : uline xa with
                  | false =>
                    have hE2 : l.all uline = false:=by rw [ha2,hli];rfl
                    replace hE2:=Lib.hid hE2
                    replace hli:=Lib.hid hli
                    clear ha2
                    go_wp2_with (first
                      | (go_at_call 40;go_must (refine (page_line.calls xa _ _ hTi (by unfold page_line.f;rw [if_pos (by omega),hli.out])).mono ?_;rintro e w8 ⟨rfl,hb8⟩)))
                    go_ret
                    exact ⟨by rw [hV.out,hE2.out];rfl,below_step (below_step hb hBi.out) hb8⟩
                  | true =>
                    have hE2 : l.all uline = (l.drop (j + 1)).all uline:=by rw [ha2,hli];rfl
                    replace hE2:=Lib.hid hE2
                    replace hli:=Lib.hid hli
                    replace hjl:=Lib.hid hjl
                    clear ha2
                    go_wp2_with (first
                      | (go_at_call 40;go_must (refine (page_line.calls xa _ _ hTi (by unfold page_line.f;rw [if_pos (by omega),hli.out])).mono ?_;rintro e w8 ⟨rfl,hb8⟩)))
                    refine ⟨⟨j + 1,x + 1,rfl,Lib.hid ⟨by have:=hj.out;omega,hjl.out⟩,hE2,Lib.hid (below_step hBi.out hb8)⟩,?_⟩
                    simp only [intOf];have:=hj.out;have:=hjl.out;omega
                · have hge2 : ¬ x < (l.length : Int):=by have:=hj.out;omega
                  have hE2 : l.all uline = true:=by rw [ha.out,List.drop_of_length_le (by omega)];rfl
                  replace hE2:=Lib.hid hE2
                  clear ha
                  go_wp2
                  go_ret
                  exact ⟨by rw [hV.out,hE2.out];rfl,below_step hb hBi.out⟩
          · have t5 : ((clues.length : Int) != (L.length : Int)) = true:=bne_iff_ne.2 (by omega)
            have t5b : (clues.length != L.length) = true:=by simpa using hcl
            have hV : V = 160:=by
              rw [← hV0.out,hE.out,hL.out,if_neg hcl]
              rfl
            replace hV:=Lib.hid hV
            replace hcl:=Lib.hid hcl
            go_wp2
            go_ret
            exact ⟨by first | (rw [hV.out];done) | (rw [hV.out];rfl) | rfl,hB6.out⟩
    · have t1 : ((cells.length : Int) != (bl.length : Int)) = true:=bne_iff_ne.2 (by omega)
      have t1b : (cells.length != bl.length) = true:=by simpa using hs
      have hv : pcheck title H W bl ri be cells clues = 51:=by unfold pcheck;rw [if_pos hg,if_neg hs]
      rw [hv]
      clear hv
      replace hg:=Lib.hid hg
      go_enter Tryz.func13,Tryz.ntmps13
      go_wp2_with (first
        | (go_at_call 37;go_must (have hPx:=hP.below hx.out.2;refine (grid_Check.calls _ _ _ _ _ _ _ _ _ _ _ _ _ _ hPx.r2 hPx.k2 hPx.r3 hPx.k3 hPx.r4 hPx.k4 hgk.out).mono ?_;clear hPx;rintro e w3 ⟨rfl,hb3⟩;have hB3:=Lib.hid (below_step hx.out.2 hb3);have bP:=Lib.hid (blk_below hx.out.1 hb3);have p3:=cells8 bP.out;clear hb3)))
      go_ret
      exact ⟨rfl,hB3.out⟩
  · have tg : (gcheck H W bl ri be != 0) = true:=bne_iff_ne.2 hg
    have hv : pcheck title H W bl ri be cells clues = gcheck H W bl ri be:=by unfold pcheck;rw [if_neg hg]
    rw [hv]
    have hgk:=grid_Check_eq H W bl ri be (bl.length + 3) (Nat.le_refl _)
    clear hv hz
    obtain ⟨ge,hge⟩ : ∃ x,gcheck H W bl ri be = x:=⟨_,rfl⟩
    rw [hge] at tg hgk ⊢
    clear hg
    replace hgk:=Lib.hid hgk
    replace hge:=Lib.hid hge
    go_enter Tryz.func13,Tryz.ntmps13
    go_wp2_with (first
      | (go_at_call 37;go_must (have hPx:=hP.below hx.out.2;refine (grid_Check.calls _ _ _ _ _ _ _ _ _ _ _ _ _ _ hPx.r2 hPx.k2 hPx.r3 hPx.k3 hPx.r4 hPx.k4 hgk.out).mono ?_;clear hPx;rintro e w3 ⟨rfl,hb3⟩;have hB3:=Lib.hid (below_step hx.out.2 hb3);have bP:=Lib.hid (blk_below hx.out.1 hb3);have p3:=cells8 bP.out;clear hb3)))
    go_ret
    exact ⟨rfl,hB3.out⟩
end Go.Proofs.YtpfbcepgmigeiaaGreatDoor.Q
end
section
namespace Go.Proofs.YtpfbcepgmigeiaaGreatDoor.Q
open Go.RowKit Go.Proofs.YtpfbcepgmigeiaaGreatDoorW.PrintWords Go.Proofs.YtpfbcepgmigeiaaGreatDoorW.PrintLast Go.Proofs.YtpfbcepgmigeiaaGreatDoorW.PrintMore
open Go.ChangeShapes Go.WideShapes Go.ChangeAt Go.Joins
set_option linter.unusedVariables false
open Go.Proofs.YtpfbcepgmigeiaaGreatDoorS
theorem bulk_pos {H : Type} (d : DataW H) : 1 ≤ Rows.uptoBulk d:=by
  cases d with
  | lit l=>cases l <;> simp [Rows.uptoBulk]
  | _=>simp [Rows.uptoBulk]
theorem bulk_part {H : Type} {d : DataW H} {l : List (DataW H)} (h : d ∈ l) : Rows.uptoBulk d ≤ Rows.uptoBulkAll l:=by
  induction l with
  | nil=>cases h
  | cons x r ih =>
    simp only [Rows.uptoBulkAll]
    rcases List.mem_cons.1 h with rfl | e
    · omega
    · have:=ih e;omega
theorem bulk_length {H : Type} (l : List (DataW H)) : l.length ≤ Rows.uptoBulkAll l:=by
  induction l with
  | nil=>simp [Rows.uptoBulkAll]
  | cons x r ih=>have:=bulk_pos x;simp only [Rows.uptoBulkAll,List.length_cons];omega
theorem bulk_bound {H : Type} {l : List (DataW H)} (hk : Rows.uptoSmall H l = true) : Rows.uptoBulkAll l ≤ 1048576:=of_decide_eq_true hk
theorem C_cells {α : Type} {enc : α → Value} {h1 : ∀ x,(enc x).oneCell' = true} {w : World} {a : Addr} {l : List α} (hl : l.length ≤ 9223372036854775807) (hc : ∀ i (h : i < l.length),w.cell? (a.add i) = some (enc l[i])) : (Kd.scalar enc h1).C w (some a) l.length l :=
  ⟨rfl,hl,fun _=>⟨a,rfl,fun j p hj=>⟨[enc p],rfl,rfl,fun i u hu=>by
    cases i with
    | zero =>
      obtain ⟨h,e⟩:=List.getElem?_eq_some_iff.1 hj
      subst e
      simp only [List.getElem?_cons_zero,Option.some.injEq] at hu
      subst hu
      have e1 : j * (Kd.scalar enc h1).sz + 0 = j:=by show j * 1 + 0 = j;omega
      rw [e1]
      exact hc j h
    | succ i=>simp at hu⟩⟩⟩
theorem C_none {α : Type} {enc : α → Value} {h1 : ∀ x,(enc x).oneCell' = true} {w : World} : (Kd.scalar enc h1).C w none 0 []:=⟨rfl,by omega,fun h=>absurd h (by omega)⟩
section
variable {H : Type} {enc : TypeId × Value → H} {P : Program} {w : World}
theorem open_strs_f {t e n : Nat} {cs : List Value} {x : DataW H × List MemPlace} (ht : P.underlying t = some (.slice e)) (he : P.underlying e = some .string) (hc : P.cellsOf e = 1) (h : DataW.trod enc P w 0 (fun _=>true) true n t cs = some x) :
    ∃ A c l,cs = [.slice A l.length c] ∧ Kd.C Kd.string w A l.length l ∧ l.length ≤ c ∧ l.length ≤ Rows.uptoBulk x.1 ∧ ∀ s ∈ l,s.size ≤ Rows.uptoBulk x.1:=by
  rcases open_strings ht he hc h with ⟨rfl,rfl⟩ | ⟨a,len,cap,ss,rfl,_,hl,hm,hz,rfl,hcell,_⟩
  · exact ⟨none,0,[],rfl,C_none,Nat.le_refl _,Nat.zero_le _,fun s hs=>by cases hs⟩
  · simp only [if_true] at hz
    have hlen : (ss.take len).length = len:=by rw [List.length_take];omega
    have hb : Rows.uptoBulkAll (strs (H:=H) (ss.take len)) + 1 ≤ Rows.uptoBulk (DataW.slice (strs (H:=H) (ss.take len)) (strs (ss.drop len))):=by simp only [Rows.uptoBulk];omega
    refine ⟨some a,cap,ss.take len,by rw [hlen],C_cells (by unfold maxLen at hm;omega) (fun i hi=>?_),by omega,?_,fun s hs=>?_⟩
    · rw [hcell i (by omega),List.getElem_take,List.getD_eq_getElem?_getD,List.getElem?_eq_getElem (by omega)];rfl
    · have:=bulk_length (strs (H:=H) (ss.take len))
      simp only [strs,List.length_map] at this
      show _ ≤ Rows.uptoBulk (DataW.slice (strs (H:=H) (ss.take len)) (strs (ss.drop len)))
      simp only [strs] at hb ⊢
      omega
    · have:=bulk_part (H:=H) (d:=.lit (.string s.data.toList)) (l:=strs (ss.take len)) (List.mem_map.2 ⟨s,hs,rfl⟩)
      have e1 : Rows.uptoBulk (DataW.lit (H:=H) (.string s.data.toList)) = s.size + 1:=by simp [Rows.uptoBulk]
      show _ ≤ Rows.uptoBulk (DataW.slice (strs (H:=H) (ss.take len)) (strs (ss.drop len)))
      omega
theorem bools_bulk {a : Addr} {len cap n : Nat} {B : Nat → Bool} (h : n = len) : n ≤ Rows.uptoBulk (Go.Deep.boolRow (H:=H) (some a) len cap B):=by
  subst h
  unfold Go.Deep.boolRow
  simp only [Rows.uptoBulk]
  have:=bulk_length (H:=H) ((List.range n).map fun i=>.lit (.bool (B i)))
  simp only [List.length_map,List.length_range] at this
  omega
theorem open_bools_f {t e n : Nat} {cs : List Value} {x : DataW H × List MemPlace} (ht : P.underlying t = some (.slice e)) (he : P.underlying e = some .bool) (hc : P.cellsOf e = 1) (h : DataW.trod enc P w 0 (fun _=>true) true n t cs = some x) :
    ∃ A c l,cs = [.slice A l.length c] ∧ Kd.C Kd.bool w A l.length l ∧ l.length ≤ c ∧ l.length ≤ Rows.uptoBulk x.1:=by
  rcases Go.Deep.open_bools ht he hc h with ⟨rfl,rfl⟩ | ⟨a,len,cap,B,rfl,_,hl,hm,rfl,hcell⟩
  · exact ⟨none,0,[],rfl,C_none,Nat.le_refl _,Nat.zero_le _⟩
  · have hlen : ((List.range len).map B).length = len:=by simp
    refine ⟨some a,cap,(List.range len).map B,by rw [hlen],C_cells (by unfold maxLen at hm;omega) (fun i hi=>?_),by omega,bools_bulk (a:=a) hlen⟩
    rw [hcell i (by omega)]
    simp
theorem trod_struct5 {t : TypeId} {f0 f1 f2 f3 f4 : Field} {fuel : Nat} {cs : List Value} {x : DataW H × List MemPlace} (ht : P.underlying t = some (.struct #[f0,f1,f2,f3,f4])) (h : DataW.trod enc P w 0 (fun _=>true) true fuel t cs = some x) :
    ∃ y0 y1 y2 y3 y4 n,x.1 = .agg [y0.1,y1.1,y2.1,y3.1,y4.1] ∧ cs.length = P.cellsOf t ∧ DataW.trod enc P w 0 (fun _=>true) true n f0.type ((cs.drop f0.offset).take (P.cellsOf f0.type)) = some y0 ∧
      DataW.trod enc P w 0 (fun _=>true) true n f1.type ((cs.drop f1.offset).take (P.cellsOf f1.type)) = some y1 ∧ DataW.trod enc P w 0 (fun _=>true) true n f2.type ((cs.drop f2.offset).take (P.cellsOf f2.type)) = some y2 ∧
      DataW.trod enc P w 0 (fun _=>true) true n f3.type ((cs.drop f3.offset).take (P.cellsOf f3.type)) = some y3 ∧ DataW.trod enc P w 0 (fun _=>true) true n f4.type ((cs.drop f4.offset).take (P.cellsOf f4.type)) = some y4:=by
  obtain ⟨xs,n,_,rfl,hl,hlen,hf⟩:=DataW.trod_struct ht h
  match xs,hlen with
  | [y0,y1,y2,y3,y4],_=>exact ⟨y0,y1,y2,y3,y4,n,rfl,hl,by simpa using hf 0 f0 rfl,by simpa using hf 1 f1 rfl,by simpa using hf 2 f2 rfl,by simpa using hf 3 f3 rfl,by simpa using hf 4 f4 rfl⟩
end
theorem bulk_agg {H : Type} {d : DataW H} {l : List (DataW H)} (h : d ∈ l) : Rows.uptoBulk d ≤ Rows.uptoBulk (.agg l):=by
  have:=bulk_part h
  simp only [Rows.uptoBulk]
  omega
set_option maxRecDepth 100000 in
theorem open_puzzle {H : Type} {enc : TypeId × Value → H} {w : World} {b : Nat} {v : Value} {d : DataW H} {p : List MemPlace} (hv : Value.okWide Tryz.prog w .any b 27 v) (h : DataW.Trod enc Tryz.prog w 0 (fun _=>true) true 27 v d p) :
    ∃ (title : ByteArray) (Hh Ww : Int) (A2 : Option Addr) (c2 : Nat) (bl : List Bool) (A3 : Option Addr) (c3 : Nat) (ri : List Bool) (A4 : Option Addr) (c4 : Nat) (be : List Bool) (A5 : Option Addr) (c5 : Nat) (cells : List ByteArray) (A6 : Option Addr) (c6 : Nat) (clues : List ByteArray),
      v = .agg #[.string title,.int .i64 Hh,.int .i64 Ww,.slice A2 bl.length c2,.slice A3 ri.length c3,.slice A4 be.length c4,.slice A5 cells.length c5,.slice A6 clues.length c6] ∧
      PuzR A2 c2 bl A3 c3 ri A4 c4 be A5 c5 cells A6 c6 clues w ∧ (Rows.uptoBulk d ≤ 1048576 → PuzS title cells clues ∧ bl.length ≤ 1048576 ∧ ri.length ≤ 1048576 ∧ be.length ≤ 1048576):=by
  obtain ⟨cs,rfl,hsz⟩:=okWide_struct Tryz.underlying27 hv
  obtain ⟨fuel,hf⟩:=h
  obtain ⟨y0,y1,y2,y3,n,hx,hl,g0,g1,g2,g3⟩:=trod_struct4 Tryz.underlying27 hf
  obtain ⟨z0,z1,z2,z3,z4,m,hz,hzl,k0,k1,k2,k3,k4⟩:=trod_struct5 Tryz.underlying24 g1
  have c27 : Tryz.prog.cellsOf 27 = 8:=by kernel_rfl
  have c24 : Tryz.prog.cellsOf 24 = 5:=by kernel_rfl
  have c25 : Tryz.prog.cellsOf 25 = 1:=by kernel_rfl
  have c22 : Tryz.prog.cellsOf 22 = 1:=by kernel_rfl
  have c9 : Tryz.prog.cellsOf 9 = 1:=by kernel_rfl
  have c4' : Tryz.prog.cellsOf 4 = 1:=by kernel_rfl
  have c3' : Tryz.prog.cellsOf 3 = 1:=by kernel_rfl
  obtain ⟨l⟩:=cs
  rw [c27] at hsz
  match l,hsz with
  | [e0,e1,e2,e3,e4,e5,e6,e7],_ =>
  simp only [Value.cells,c24,c25,c22,c9,c3',List.drop_succ_cons,List.drop_zero,List.take_succ_cons,List.take_zero] at g0 g1 g2 g3 k0 k1 k2 k3 k4
  obtain ⟨title,r0,r1,_⟩:=DataW.trod_string Tryz.underlying9 g0
  obtain ⟨Hh,r2,r3,_⟩:=DataW.trod_int Tryz.underlying3 k0
  obtain ⟨Ww,r4,r5,_⟩:=DataW.trod_int Tryz.underlying3 k1
  obtain ⟨A2,c2,bl,s2,t2,u2,v2⟩:=open_bools_f Tryz.underlying22 Tryz.underlying4 c4' k2
  obtain ⟨A3,c3,ri,s3,t3,u3,v3⟩:=open_bools_f Tryz.underlying22 Tryz.underlying4 c4' k3
  obtain ⟨A4,c4,be,s4,t4,u4,v4⟩:=open_bools_f Tryz.underlying22 Tryz.underlying4 c4' k4
  obtain ⟨A5,c5,cells,s5,t5,u5,v5,w5⟩:=open_strs_f Tryz.underlying25 Tryz.underlying9 c9 g2
  obtain ⟨A6,c6,clues,s6,t6,u6,v6,w6⟩:=open_strs_f Tryz.underlying25 Tryz.underlying9 c9 g3
  simp only [List.cons.injEq,and_true] at r0 r2 r4 s2 s3 s4 s5 s6
  subst r0 r2 r4 s2 s3 s4 s5 s6
  refine ⟨title,Hh,Ww,A2,c2,bl,A3,c3,ri,A4,c4,be,A5,c5,cells,A6,c6,clues,rfl,⟨t2,u2,t3,u3,t4,u4,t5,u5,t6,u6⟩,fun hd=>?_⟩
  have hx1 : d = .agg [y0.1,y1.1,y2.1,y3.1]:=congrArg Prod.fst hx
  rw [hx1] at hd
  have q0:=bulk_agg (H:=H) (d:=y0.1) (l:=[y0.1,y1.1,y2.1,y3.1]) (by simp)
  have q2:=bulk_agg (H:=H) (d:=y2.1) (l:=[y0.1,y1.1,y2.1,y3.1]) (by simp)
  have q3:=bulk_agg (H:=H) (d:=y3.1) (l:=[y0.1,y1.1,y2.1,y3.1]) (by simp)
  have e0 : Rows.uptoBulk y0.1 = title.size + 1:=by rw [r1];simp [Rows.uptoBulk]
  have q1:=bulk_agg (H:=H) (d:=y1.1) (l:=[y0.1,y1.1,y2.1,y3.1]) (by simp)
  have e1 : Rows.uptoBulk y1.1 = Rows.uptoBulk (DataW.agg [z0.1,z1.1,z2.1,z3.1,z4.1]):=by rw [hz]
  have k2':=bulk_agg (H:=H) (d:=z2.1) (l:=[z0.1,z1.1,z2.1,z3.1,z4.1]) (by simp)
  have k3':=bulk_agg (H:=H) (d:=z3.1) (l:=[z0.1,z1.1,z2.1,z3.1,z4.1]) (by simp)
  have k4':=bulk_agg (H:=H) (d:=z4.1) (l:=[z0.1,z1.1,z2.1,z3.1,z4.1]) (by simp)
  exact ⟨⟨by omega,fun s hs=>by have:=w5 s hs;omega,fun s hs=>by have:=w6 s hs;omega,by omega,by omega⟩,by omega,by omega,by omega⟩
def u8ren : Go.Shelf.Ren:=⟨fun n=>n,fun | 119=>152 | 138=>154 | 139=>155 | _=>5,fun | 3=>2 | _=>3⟩
theorem u8types : U8Types Tryz.prog u8ren:=⟨by kernel_rfl,by kernel_rfl,by kernel_rfl,by kernel_rfl⟩
theorem accept_eq : (Rows.laid_unicode_utf8_acceptRanges : DataW Unit) = Lib.acceptData:=by kernel_rfl
theorem first_eq : Rows.laid_unicode_utf8_first = Lib.firstData:=by kernel_rfl
theorem pow_eq : (Rows.laid_internal_strconv_uint64pow10 : DataW Unit) = Lib.tabData .u64 Lib.pow10Tab:=by kernel_rfl
abbrev laid5 : List (String × DataW Unit):=[("math/bits.deBruijn32tab",Rows.laid_math_bits_deBruijn32tab),("math/bits.deBruijn64tab",Rows.laid_math_bits_deBruijn64tab),("internal/strconv.uint64pow10",Rows.laid_internal_strconv_uint64pow10),("unicode/utf8.acceptRanges",Rows.laid_unicode_utf8_acceptRanges),("unicode/utf8.first",Rows.laid_unicode_utf8_first)]
theorem tabs_of_laid {w : World} (h : laidMetH Tryz.prog laid5 w) (hs : w.ShapedOpen Tryz.prog) : Tabs w:=by
  have h' : laidMet Tryz.prog [("math/bits.deBruijn32tab",Rows.laid_math_bits_deBruijn32tab),("math/bits.deBruijn64tab",Rows.laid_math_bits_deBruijn64tab),("internal/strconv.uint64pow10",Lib.tabData .u64 Lib.pow10Tab),("unicode/utf8.acceptRanges",Lib.acceptData),("unicode/utf8.first",Lib.firstData)] w:=by rw [← accept_eq,← first_eq,← pow_eq];exact h
  refine ⟨utf8Tabs_of_readsT u8types ⟨by kernel_rfl,by kernel_rfl,by kernel_rfl,by kernel_rfl,by kernel_rfl,by kernel_rfl,by kernel_rfl⟩ (Lib.laidMet.reads h' (.tail _ (.tail _ (.tail _ (.tail _ (.head _)))))) (Lib.laidMet.reads h' (.tail _ (.tail _ (.tail _ (.head _))))),?_,?_⟩
  · exact Lib.tabIs_of_head (g:=0) (n:=20) (by kernel_rfl) (by kernel_rfl) Tryz.underlying147 Tryz.underlying101 (by kernel_rfl) (by kernel_rfl) (laidMet.tail (laidMet.tail h'))
  · exact Go.Proofs.cell_of_shapedOpen_int (zero:=#[.int .i64 0]) (t:=3) hs (of_decide_eq_true (by kernel_rfl)) (by kernel_rfl) rfl (by kernel_rfl) (by kernel_rfl) Tryz.underlying3
def putTab (h : Array Obj) (g : Nat) (cs : Array Value) : Array Obj:=h.modify g fun
  | .cells _ t frozen=>.cells cs t frozen
  | o=>o
noncomputable def laidWorld (os : Os) : World :=
  { World.doorLaid Tryz.prog 34 os with heap:=putTab (World.doorLaid Tryz.prog 34 os).heap 2 (Lib.firstTab.map fun z=>Value.int .u8 z).toArray }
theorem own_knob : ownKnob Tryz.prog.godebug = none:=by kernel_rfl
theorem laid_out : laidOutB Tryz.prog = true:=by kernel_rfl
section
variable {H : Type} {enc : TypeId × Value → H} {P : Program}
theorem post_of_below {f : Func} {s : ChangeSpec} {apart fresh handsOn again : Bool} {W W' : World} {args : Array Value} {v : Value} {ds gs : List (DataW H)} {before pa pv : List MemPlace}
    (hW : DataW.Whole enc P f.params.toList s.vars apart W args.toList ds gs before)
    (hres : ∀ (b : Nat) (sp : Nat → Bool) (hd : Bool),DataW.TrodAll enc P W' b sp hd f.resultTypes.toList (v.resultList f.resultTypes.size) (s.fn H (ds ++ gs)).results [])
    (hargs : ∀ sp : Nat → Bool,(∀ p ∈ before,sp p.block = true) → DataW.TrodAll enc P W' 0 sp true f.params.toList args.toList (s.fn H (ds ++ gs)).args pa)
    (hvars : ∀ sp : Nat → Bool,(∀ p ∈ before,sp p.block = true) → DataW.TrodVars enc P W' sp s.vars (s.fn H (ds ++ gs)).vars pv)
    (hps : before = pa ++ pv) (hb : Below W.heap.size W W')
    (hok : ∀ (j : Nat) (t : TypeId) (r : Value),f.resultTypes[j]? = some t → (v.resultList f.resultTypes.size)[j]? = some r → Value.okWide P W' .any 0 t r) :
    s.post enc P f apart fresh handsOn again W args v W':=by
  have hlt : ∀ p ∈ before,p.block < W.heap.size:=fun p hp=>hW.lt p hp
  have hold : ∀ p ∈ before,(fun b=>decide (b < W.heap.size)) p.block = true:=fun p hp=>by simpa using hlt p hp
  refine ⟨ds,gs,before,[],pa,pv,hW,hres _ _ _,hargs _ hold,hvars _ hold,World.keptBut_mono (fun p hp=>⟨hp,?_⟩) (hb.frame (· ∈ before)),fun _=>?_⟩
  · rw [hps,List.mem_append] at hp
    exact Or.inr hp
  · obtain ⟨_,_,_,_,_,hz,hn⟩:=hW
    refine ⟨hok,_,_,([] ++ pa) ++ pv,⟨[] ++ pa,pv,trodAll_append (hargs _ (fun _ _=>rfl)) (hres _ _ _),hvars _ (fun _ _=>rfl),rfl,?_,?_⟩,?_⟩
    · intro b off hp
      have hin : MemPlace.cell b off ∈ before:=by rw [hps];simpa using hp
      rw [hb.frozen (hlt _ hin)]
      exact hz b off hin
    · intro ha
      have:=hn ha
      rw [hps] at this
      simpa using this
    · intro p hp _
      rw [hps]
      simpa using hp
end
end Go.Proofs.YtpfbcepgmigeiaaGreatDoor.Q
end
