/- PART 15 OF A PROOF: Lean functions, and that the program computes them; written by hand and by a program. Not trusted: Lean checks it. -/
import Derived.Laws.EntriesVeiled
import Derived.Lib.AppendIntMem
import Derived.Shelf.Strings.FieldsFuncAny
import Derived.Test.YtpfbcepgmigeiaaGreatDoorPa7
import Derived.Test.YtpfbcepgmigeiaaGreatDoorPa8
import Derived.Test.YtpfbcepgmigeiaaGreatDoorPa9
import Derived.Test.YtpfbcepgmigeiaaGreatDoorPa10
import Derived.Test.YtpfbcepgmigeiaaGreatDoorPa14
set_option linter.unusedVariables false
set_option linter.unusedSimpArgs false
section
namespace Go.Proofs.YtpfbcepgmigeiaaGreatDoor.Q
open Go Go.Lib Go.Proofs.YtpfbcepgmigeiaaGreatDoorS Go.Proofs.YtpfbcepgmigeiaaGreatDoorW.PrintWords Go.Proofs.YtpfbcepgmigeiaaGreatDoorW.PrintLast Go.Proofs.YtpfbcepgmigeiaaGreatDoorW.PrintMore
set_option linter.unusedVariables false
set_option linter.unusedSimpArgs false
def hdB (n : Int) : ByteArray:=spB (3 - (itoaB n).size) ++ itoaB n ++ ⟨#[46]⟩
def tailL : ByteArray → List ByteArray → List ByteArray
  | _,[]=>[]
  | h,x :: r=>(h ++ spc ++ x) :: tailL (spB 4) r
def wwL (s : ByteArray) (width : Int) : List ByteArray:=(wwrap s width).getD []
def clueL (n : Int) (t : List ByteArray) : List ByteArray:=(if t.length = 0 then [hdB n] else []) ++ tailL (hdB n) t
def strip (x : ByteArray) : ByteArray:=if bt x 3 = 46 then spB 4 ++ x.extract 4 x.size else x
def catL (ws : List ByteArray) : List UInt8:=ws.flatMap fun w=>w.data.toList
theorem catL_append (a b : List ByteArray) : catL (a ++ b) = catL a ++ catL b:=by simp [catL]
def Good (width : Int) (l : List ByteArray) (n : Nat) (bs : List UInt8) : Prop :=
  (∀ x ∈ l,4 ≤ x.size ∧ x.size ≤ 4096 ∧ ucols x ≤ width ∧ ∃ rs,vr rs ∧ strip x = eb rs) ∧ (l.filter fun x=>bt x 3 == 46).length = n ∧ catL (l.flatMap fun x=>goFieldsP blk (strip x)) = bs
theorem Good.nil (width : Int) : Good width [] 0 []:=⟨fun x hx=>by (cases hx),rfl,rfl⟩
theorem Good.append {width : Int} {a b : List ByteArray} {n m : Nat} {x y : List UInt8} (h1 : Good width a n x) (h2 : Good width b m y) : Good width (a ++ b) (n + m) (x ++ y):=by
  refine ⟨fun z hz=>(List.mem_append.1 hz).elim (h1.1 z) (h2.1 z),?_,?_⟩
  · rw [List.filter_append,List.length_append,h1.2.1,h2.2.1]
  · rw [List.flatMap_append,catL_append,h1.2.2,h2.2.2]
theorem catL_eb (B : List (List Nat)) : catL (B.map eb) = en B.flatten:=by
  induction B with
  | nil=>rfl
  | cons b B ih =>
    have : catL ((b :: B).map eb) = (eb b).data.toList ++ catL (B.map eb):=by simp [catL]
    rw [this,ih,eb_list,List.flatten_cons,en_append]
theorem words_en {m : List Nat} (hv : vr m) : catL (goFieldsP blk (eb m)) = en (nb m):=by
  obtain ⟨B,h1,h2,-⟩:=fields_en hv
  rw [h1,catL_eb,h2]
theorem bt_list (s : ByteArray) (i : Int) : bt s i = ((s.data.toList.getD i.toNat 0).toNat : Int):=by
  unfold bt
  have hs : s.size = s.data.toList.length:=by rw [Array.length_toList];rfl
  split
  · rename_i h
    rw [List.getD_eq_getElem?_getD,List.getElem?_eq_getElem (by omega)]
    rfl
  · rename_i h
    rw [List.getD_eq_getElem?_getD,List.getElem?_eq_none (by omega)]
    rfl
theorem bt_en {l m : List Nat} (h : (en l).length = 4) : bt (eb (l ++ m)) 3 = (((en l).getD 3 0).toNat : Int):=by
  rw [bt_list,eb_list,en_append,List.getD_eq_getElem?_getD,List.getD_eq_getElem?_getD,List.getElem?_append_left (by rw [h];decide)]
  rfl
set_option maxRecDepth 1000000 in
theorem sp4_eb : spB 4 = eb [32,32,32,32]:=by
  apply eb_of
  decide
theorem v4 : vr [32,32,32,32]:=fun r hr=>by
  simp at hr
  subst hr
  decide
theorem nsum_nar : ∀ l : List Nat,(∀ r ∈ l,unar (r : Int)) → nsum l = l.length ∧ vr l
  | [],_=>⟨rfl,fun r hr=>by (cases hr)⟩
  | r :: l,h=>by
    obtain ⟨h1,h2⟩:=nsum_nar l (fun x hx=>h x (List.mem_cons_of_mem _ hx))
    have h3:=h r (List.mem_cons_self ..)
    have h4 : uwid (r : Int) = 1:=by
      unfold unar at h3
      unfold uwid
      rw [if_neg (by omega),if_neg (by omega)]
    refine ⟨by rw [nsum,h1,h4,List.length_cons];omega,fun x hx=>?_⟩
    rcases List.mem_cons.1 hx with rfl | hx
    · exact unar_valid h3
    · exact h2 x hx
theorem hd_en {n : Int} (h1 : 1 ≤ n) (h2 : n ≤ 256) : ∃ l,hdB n = eb l ∧ vr l ∧ nsum l = 4 ∧ (en l).length = 4 ∧ (en l).getD 3 0 = 46:=by
  have hn:=num_ok h1 h2
  have hd : Nar [46] 1:=Nar.ascii [46] (by decide)
  have hs : (itoaB n).size = (itoaB n).data.toList.length:=by rw [Array.length_toList];rfl
  have hb : (hdB n).data.toList = List.replicate (3 - (itoaB n).size) 32 ++ (itoaB n).data.toList ++ [46]:=by
    unfold hdB
    simp [ByteArray.data_append,spB]
  have hN : Nar (hdB n).data.toList (3 - (itoaB n).size + (itoaB n).size + 1):=by
    rw [hb]
    refine Nar.append (Nar.append ?_ hn.2) hd
    have:=nar_sp (3 - (itoaB n).size)
    simpa [spB] using this
  obtain ⟨l,e,hl,hu⟩:=hN
  have hln : (hdB n).data.toList.length = 4:=by
    rw [hb]
    simp only [List.length_append,List.length_replicate,List.length_singleton]
    have:=hn.1
    omega
  have hel : en l = (hdB n).data.toList:=e.symm
  obtain ⟨i1,i2⟩:=nsum_nar l hu
  refine ⟨l,eb_of e,i2,by rw [i1,hl];have:=hn.1;omega,by rw [hel];exact hln,?_⟩
  rw [hel,hb,List.getD_eq_getElem?_getD,List.getElem?_append_right (by simp only [List.length_append,List.length_replicate];have:=hn.1;omega)]
  simp only [List.length_append,List.length_replicate]
  rw [show 3 - (3 - (itoaB n).size + (itoaB n).data.toList.length) = 0 by omega]
  rfl
theorem good_head {l y : List Nat} {width : Int} (hl : vr l) (hn : nsum l = 4) (h4 : (en l).length = 4) (h46 : (en l).getD 3 0 = 46) (hy : vr y) (hw : nsum y + 5 ≤ width) (hz : (en y).length ≤ 3000) : Good width [eb l ++ spc ++ eb y] 1 (en (nb y)):=by
  have e : eb l ++ spc ++ eb y = eb (l ++ ([32] ++ y)):=by rw [spc_eb,eb_append,eb_append,ByteArray.append_assoc]
  have hu : uwid ((32 : Nat) : Int) = 1:=by decide
  have h1 : (en [32]).length = 1:=by decide
  have hb : bt (eb (l ++ ([32] ++ y))) 3 = 46:=by rw [bt_en h4,h46];rfl
  have hsz : (eb (l ++ ([32] ++ y))).size = 5 + (en y).length:=by rw [eb_size,en_append,en_append,List.length_append,List.length_append,h4,h1];omega
  have hs : strip (eb (l ++ ([32] ++ y))) = eb ([32,32,32,32] ++ ([32] ++ y)):=by
    unfold strip
    rw [if_pos hb,sp4_eb,eb_append [32,32,32,32]]
    congr 1
    have:=cut_last l ([32] ++ y)
    rw [h4] at this
    rw [eb_size]
    exact this
  refine ⟨?_,?_,?_⟩
  · intro x hx
    rw [List.mem_singleton.1 hx,e]
    refine ⟨by omega,by omega,?_,_,vr_join v4 (vr_join v32 hy),hs⟩
    rw [ucols_en (vr_join hl (vr_join v32 hy)),nsum_append,nsum_append,hn]
    simp only [nsum,hu]
    omega
  · rw [e,List.filter_cons,if_pos (by rw [hb];rfl)]
    rfl
  · rw [List.flatMap_cons,List.flatMap_nil,List.append_nil,e]
    rw [hs,words_en (vr_join v4 (vr_join v32 hy)),nb_append,nb_append,show nb [32,32,32,32] = [] by decide,show nb [32] = [] by decide]
    rfl
theorem good_next {y : List Nat} {width : Int} (hy : vr y) (hw : nsum y + 5 ≤ width) (hz : (en y).length ≤ 3000) : Good width [spB 4 ++ spc ++ eb y] 0 (en (nb y)):=by
  have e : spB 4 ++ spc ++ eb y = eb ([32,32,32,32] ++ ([32] ++ y)):=by rw [sp4_eb,spc_eb,eb_append,eb_append,ByteArray.append_assoc]
  have hu : uwid ((32 : Nat) : Int) = 1:=by decide
  have h1 : (en [32]).length = 1:=by decide
  have h4 : (en [32,32,32,32]).length = 4:=by decide
  have hb : bt (eb ([32,32,32,32] ++ ([32] ++ y))) 3 = 32:=by rw [bt_en h4];decide
  have hsz : (eb ([32,32,32,32] ++ ([32] ++ y))).size = 5 + (en y).length:=by rw [eb_size,en_append,en_append,List.length_append,List.length_append,h4,h1];omega
  have hs : strip (eb ([32,32,32,32] ++ ([32] ++ y))) = eb ([32,32,32,32] ++ ([32] ++ y)):=by
    unfold strip
    rw [if_neg (by rw [hb];decide)]
  refine ⟨?_,?_,?_⟩
  · intro x hx
    rw [List.mem_singleton.1 hx,e]
    refine ⟨by omega,by omega,?_,_,vr_join v4 (vr_join v32 hy),hs⟩
    rw [ucols_en (vr_join v4 (vr_join v32 hy)),nsum_append,nsum_append]
    simp only [nsum,hu]
    omega
  · rw [e,List.filter_cons,if_neg (by rw [hb];decide)]
    rfl
  · rw [List.flatMap_cons,List.flatMap_nil,List.append_nil,e]
    rw [hs,words_en (vr_join v4 (vr_join v32 hy)),nb_append,nb_append,show nb [32,32,32,32] = [] by decide,show nb [32] = [] by decide]
    rfl
theorem good_tail {width : Int} : ∀ (L : List (List Nat)),(∀ y ∈ L,vr y ∧ nsum y ≤ width - 5 ∧ (en y).length ≤ 3000) → Good width (tailL (spB 4) (L.map eb)) 0 (en (L.map nb).flatten)
  | [],_=>Good.nil width
  | y :: L,h=>by
    have h1:=h y (List.mem_cons_self ..)
    have ih:=good_tail L (fun x hx=>h x (List.mem_cons_of_mem _ hx))
    have:=(good_next h1.1 (by omega) h1.2.2).append ih
    rw [List.map_cons,List.map_cons,List.flatten_cons,en_append]
    exact this
theorem good_clue {n : Int} (h1 : 1 ≤ n) (h2 : n ≤ 256) {c : ByteArray} (hc : uvalid c = true) (hz : c.size ≤ 960) {width : Int} (hw : 10 ≤ width) :
    ∃ L,wwrap c (width - 5) = some L ∧ Good width (clueL n L) 1 (catL (goFieldsP blk c)) ∧ (∀ x ∈ L,x.size ≤ 3000) ∧ L.length ≤ 3000:=by
  obtain ⟨rs,hv,rfl⟩:=valid_runes hc
  obtain ⟨L,i1,i2,i3,i4⟩:=wwrap_en hv (width:=width - 5) (by omega)
  rw [eb_size] at hz
  obtain ⟨l,j1,j2,j3,j4,j5⟩:=hd_en h1 h2
  have hL : ∀ y ∈ L,vr y ∧ nsum y ≤ width - 5 ∧ (en y).length ≤ 3000:=fun y hy=>⟨(i2 y hy).1,(i2 y hy).2,by have:=wm_mem L y hy;omega⟩
  have hlen:=wm_length L
  refine ⟨L.map eb,i1,?_,?_,by rw [List.length_map];omega⟩
  · rw [words_en hv,← i3]
    cases L with
    | nil =>
      have:=good_head (y:=[]) j2 j3 j4 j5 (fun r hr=>by (cases hr)) (width:=width) (by simp only [nsum];omega) (by decide)
      have hb : bt (eb l) 3 = 46:=by
        have:=bt_en (m:=[]) j4
        rw [List.append_nil] at this
        rw [this,j5]
        rfl
      have hs : strip (eb l) = eb [32,32,32,32]:=by
        unfold strip
        rw [if_pos hb,sp4_eb]
        have:=cut_last l []
        rw [List.append_nil,j4] at this
        rw [eb_size,j4,this,show eb [] = ByteArray.empty from rfl,ByteArray.append_empty]
      refine ⟨?_,?_,?_⟩
      · intro x hx
        have hx2 : x = eb l:=by rw [← j1];simpa [clueL,tailL] using hx
        rw [hx2,eb_size,j4,ucols_en j2,j3]
        exact ⟨by omega,by omega,by omega,_,v4,hs⟩
      · have : clueL n (List.map eb []) = [eb l]:=by rw [← j1];rfl
        rw [this,List.filter_cons,if_pos (by rw [hb];rfl)]
        rfl
      · have : clueL n (List.map eb []) = [eb l]:=by rw [← j1];rfl
        rw [this,List.flatMap_cons,List.flatMap_nil,List.append_nil]
        rw [hs,words_en v4]
        rfl
    | cons y L =>
      have h3:=hL y (List.mem_cons_self ..)
      have h4:=good_tail L (fun x hx=>hL x (List.mem_cons_of_mem _ hx))
      have h5:=(good_head j2 j3 j4 j5 h3.1 (width:=width) (by omega) h3.2.2).append h4
      rw [List.map_cons,List.map_cons,List.flatten_cons,en_append]
      have e : clueL n (eb y :: L.map eb) = [eb l ++ spc ++ eb y] ++ tailL (spB 4) (L.map eb):=by
        unfold clueL
        rw [if_neg (by simp),j1]
        rfl
      rw [e]
      exact h5
  · intro x hx
    obtain ⟨y,hy,rfl⟩:=List.mem_map.1 hx
    rw [eb_size]
    exact (hL y hy).2.2
end Go.Proofs.YtpfbcepgmigeiaaGreatDoor.Q
end
section
namespace Go.Proofs.YtpfbcepgmigeiaaGreatDoor.Q
open Go.RowKit Go.Shelf Go.Proofs.YtpfbcepgmigeiaaGreatDoorW.PrintWords Go.Proofs.YtpfbcepgmigeiaaGreatDoorW.PrintLast Go.Proofs.YtpfbcepgmigeiaaGreatDoorW.PrintMore
set_option linter.unusedVariables false
set_option linter.unusedSimpArgs false
open Go.Proofs.YtpfbcepgmigeiaaGreatDoorS
def RowPost (bv : Nat) (ys : List ByteArray) (w : World) (e : Ending) (w' : World) : Prop :=
  e = .returned (.tuple #[]) ∧ ∃ v',Boxed w' bv 25 v' ∧ Kd.R Kd.string 9 w' bv (fun _=>True) v' ys ∧ Below bv w w' ∧ w.heap.size ≤ w'.heap.size ∧ ∀ (k : Nat) (cs : Array Value) (t : TypeId),w.heap[k]? = some (.cells cs t (0,0)) → t ≠ 9 → k ≠ bv → w'.heap[k]? = some (.cells cs t (0,0))
theorem catB_size {f : Nat → ByteArray} {m : Nat} : ∀ n : Nat,(∀ c,(f c).size ≤ m) → (catB f n).size ≤ n * m
  | 0,_=>by show 0 ≤ _;exact Nat.zero_le _
  | n + 1,h=>by
    have h1:=catB_size n h
    have h2:=h n
    show (catB f n ++ f n).size ≤ _
    rw [ByteArray.size_append,Nat.succ_mul]
    omega
theorem ba_of_list (x : ByteArray) : (⟨x.data.toList.toArray⟩ : ByteArray) = x:=by cases x;simp
set_option maxHeartbeats 8000000 in
set_option maxRecDepth 1000000 in
theorem row_calls {bg bv cid : Nat} {caps : Array Value} {W : Int} {r : Nat} {en : ByteArray} {f : Int → ByteArray} {v : Value} {xs : List ByteArray} {w : World} (hW : 1 ≤ W ∧ W ≤ 16) (hr : r ≤ 16) (hb : w.cell? ⟨bg,1,none⟩ = some (.int .i64 W)) (hv : Boxed w bv 25 v) (hR : Kd.R Kd.string 9 w bv (fun _=>True) v xs) (hx : xs.length ≤ 1000) (he : en.size ≤ 100) (hf : ∀ i,(f i).size ≤ 4194304)
    (hent : ∀ (args : Array Value) (w1 : World),(callFunc cid args).run Tryz.prog w1 = .ok (.enter cid args) w1)
    (hcell : ∀ w1,Below w.heap.size w w1 → ∀ c : Nat,(c : Int) < W → Calls Tryz.prog cid (#[.int .i64 ((r : Int) * W + (c : Int))] ++ caps) w1 fun e w2=>e = .returned (.string (f ((r : Int) * W + (c : Int)))) ∧ Below w1.heap.size w1 w2) :
    Calls Tryz.prog 28 #[.int .i64 (r : Int),.string en,.func (.func cid) #[] caps,.pointer (some ⟨bg,0,none⟩),.pointer (some ⟨bv,0,none⟩)] w (RowPost bv (xs ++ [rowB W r f en]) w):=by
  have hq : (r : Int) * W ≤ 256 ∧ 0 ≤ (r : Int) * W:=by
    have h1 : (r : Int) * W ≤ 16 * 16:=Int.mul_le_mul (by omega) hW.2 (by omega) (by omega)
    exact ⟨by omega,Int.mul_nonneg (by omega) (by omega)⟩
  obtain ⟨q,hqe⟩ : ∃ q,(r : Int) * W = q:=⟨_,rfl⟩
  have hrow : rowB W r f en = catB (fun c=>f (q + (c : Int))) W.toNat ++ en:=by unfold rowB;rw [hqe]
  rw [hqe] at hq
  rw [hrow]
  clear hrow
  have ew : wrap64 ((r : Int) * W) = q:=by rw [hqe];exact w64 (by omega) (by omega)
  have hcell2 : ∀ w1,Below w.heap.size w w1 → ∀ c : Nat,(c : Int) < W → Calls Tryz.prog cid (#[.int .i64 (q + (c : Int))] ++ caps) w1 fun e w2=>e = .returned (.string (f (q + (c : Int)))) ∧ Below w1.heap.size w1 w2:=by
    rw [← hqe]
    exact hcell
  clear hcell
  replace hqe:=Lib.hid hqe
  replace hcell2:=Lib.hid hcell2
  obtain ⟨F,hF⟩ : ∃ F : Nat → ByteArray,(fun c : Nat=>f (q + (c : Int))) = F:=⟨_,rfl⟩
  have hFc : ∀ c : Nat,f (q + (c : Int)) = F c:=fun c=>congrFun hF c
  have hFs : ∀ c,(F c).size ≤ 4194304:=fun c=>by rw [← hFc];exact hf _
  rw [hF]
  replace hF:=Lib.hid hF
  replace hFc:=Lib.hid hFc
  replace hFs:=Lib.hid hFs
  replace hf:=Lib.hid hf
  replace hv:=Lib.hid hv
  replace hR:=Lib.hid hR
  have hba : ∀ o : Obj,(w.alloc o).cell? ⟨bg,1,none⟩ = some (.int .i64 W):=fun o=>cell_old1 hb o
  go_enter Tryz.func28,Tryz.ntmps28
  go_wp2
  go_loopw [12] (fun v12 wr=>∃ c : Nat,v12 = .int .i64 (c : Int) ∧ Hid (c ≤ W.toNat) ∧ Hid (Lib.IsBuilderF 57 5 w.heap.size w.heap.size (Lib.byteCells (catB F c).data.toList) wr) ∧ Hid (Below w.heap.size w wr)) (fun v12 _=>W.toNat - (intOf v12).toNat)
  case atStart=>exact ⟨0,rfl,Lib.hid (Nat.zero_le _),Lib.hid (Lib.IsBuilderF.of (Lib.fresh_isBuilder 57 5 w)),Lib.hid (below_alloc (Below.refl _ _) _)⟩
  case round =>
    obtain ⟨c,rfl,hc,hI,hB⟩:=hrel
    have hb2:=pw_cell_below hB.out hb
    by_cases hlt : (c : Int) < W
    · have hsz:=catB_size c hFs.out
      have hc16 : c < 16:=by omega
      have hln : (Lib.byteCells (catB F c).data.toList).length + (F c).size ≤ 140737488355328:=by
        have h1:=hFs.out c
        have h2 : c * 4194304 ≤ 16 * 4194304:=Nat.mul_le_mul_right _ (by omega)
        have h3 : (catB F c).data.toList.length = (catB F c).size:=rfl
        rw [Lib.byteCells_length,h3]
        omega
      have ew2 : wrap64 (q + (c : Int)) = q + (c : Int):=w64 (by omega) (by omega)
      replace hln:=Lib.hid hln
      clear hsz
      go_wp2_with (first
        | (go_at_fn cid;go_must (refine (hcell2.out _ hB.out c hlt).mono ?_;rw [hFc.out c];rintro e w2 ⟨rfl,hb3⟩;have hI2:=Lib.hid (bld_below hI.out hb3);have hB2:=Lib.hid (hB.out.trans (hb3.mono hB.out.size));have hb4:=pw_cell_below hB2.out hb))
        | (go_at_call 23;go_must (refine (bld_WriteString _ _ _ _ _ hI2.out hln.out (bld_size hI2.out)).mono ?_;rintro e w3 ⟨rfl,hI3,hb5,hk3⟩;have hB3:=Lib.hid (hB2.out.trans hb5))))
      go_roundw
      case rel =>
        refine ⟨c + 1,by go_num,Lib.hid (by omega),Lib.hid ?_,hB3⟩
        have e1 : Lib.byteCells (catB F (c + 1)).data.toList = Lib.byteCells (catB F c).data.toList ++ Lib.strCells (F c):=by
          show Lib.byteCells (catB F c ++ F c).data.toList = _
          rw [bap,Lib.byteCells_append,Lib.strCells_eq]
        rw [e1]
        exact .inr hI3
      case measure=>simp only [intOf];omega
    · have hcW : c = W.toNat:=by have:=hc.out;omega
      subst hcW
      obtain ⟨y,hy⟩ : ∃ y,catB F W.toNat = y:=⟨_,rfl⟩
      have hys : y.size ≤ 67108864:=by
        rw [← hy]
        have h1:=catB_size W.toNat hFs.out
        have h2 : W.toNat * 4194304 ≤ 16 * 4194304:=Nat.mul_le_mul_right _ (by omega)
        omega
      rw [hy] at hI ⊢
      replace hy:=Lib.hid hy
      have t3 : ¬ (9223372036854775807 : Int) < (y.size : Int) + (en.size : Int):=by omega
      obtain ⟨A,cc,rfl⟩:=Kd.R_slice hR.out
      go_wp2
      refine start_ (n:=7) (S:=fun w'=>w'.cell? ⟨bv,0,none⟩ = some (.slice A xs.length cc)) (ds:=[6]) #[false,false,false,false,false,false,false] (by kernel_rfl) rfl rfl (pw_cell_below (below_drew (Below.refl _ _)) (boxed_below hv.out (hB.out.mono (Nat.le_refl _))).cell) (fun hHeld=>?_)
      replace hI:=Lib.hid (bld_below hI.out (below_drew (Below.refl wr.heap.size wr)))
      replace hB:=Lib.hid (below_drew hB.out)
      generalize wr.drew = w1 at hI hB hHeld ⊢
      refine pure_ (i:=2) (N:=some 27) (v:=?_) (a':=?_) #[false,false,true,false,false,false,false] rfl rfl (by kernel_rfl) (fun _ _ _ h=>h) (Or.inl ⟨by rfl,?_⟩) ?_ ?_
      rotate_left
      · intro w';go_simp;try with_reducible rfl
      rotate_left
      · simp only [Act.put,List.setIfInBounds_toArray,List.set_cons_zero,List.set_cons_succ,i64_w,i32_w];rfl
      refine take_ (i:=0) (N:=some 25) (v:=?_) (a':=?_) #[true,false,true,false,false,false,false] rfl rfl (by kernel_rfl) (fun _ _ _ h=>h) (Or.inl ⟨by rfl,?_⟩) hHeld ?_ ?_
      rotate_left
      · rintro w' s0;(try dsimp only at s0);go_simp;try with_reducible rfl
      rotate_left
      · simp only [Act.put,List.setIfInBounds_toArray,List.set_cons_zero,List.set_cons_succ,i64_w,i32_w];rfl
      refine one_ (i:=1) (N:=some 26) #[true,true,true,false,false,false,false] rfl rfl (by kernel_rfl) (by decide) (fun K hK=>?_)
      refine goes_ Tryz.func25 (by kernel_rfl) rfl #[.pointer (some ⟨w.heap.size,0,none⟩)] (by rfl) rfl rfl (by first | (go_simp;done) | (go_simp;rfl)) ?_
      refine (Tryz.Builder_String_any_k _ _ _ _ hI.out hB.out.size).mono ?_
      rintro e w2 ⟨rfl,hI2,hb2,hk2⟩
      rw [ba_of_list]
      refine ⟨_,rfl,?_⟩
      replace hB:=Lib.hid (hB.out.trans hb2)
      clear hI hI2 hb2 hk2 hHeld
      refine hK.out _ _ ((boxed_below hv.out hB.out).cell) (fun hHeld=>?_)
      clear hK K
      refine norm_ (a':=?_) ?_ ?_
      rotate_left
      · show Act.put _ (some 26) _ = _
        simp only [Act.put,List.setIfInBounds_toArray,List.set_cons_zero,List.set_cons_succ,i64_w,i32_w];rfl
      refine pure_ (i:=3) (N:=some 28) (v:=?_) (a':=?_) #[true,true,true,true,false,false,false] rfl rfl (by kernel_rfl) (fun _ _ _ h=>h) (Or.inl ⟨by rfl,?_⟩) ?_ ?_
      rotate_left
      · intro w';go_simp;rw [if_neg (show ¬ 9223372036854775807 < y.size + en.size by omega)]
      rotate_left
      · simp only [Act.put,List.setIfInBounds_toArray,List.set_cons_zero,List.set_cons_succ,i64_w,i32_w];rfl
      refine one_ (i:=4) (N:=some 29) #[true,true,true,true,true,false,false] rfl rfl (by kernel_rfl) (by decide) (fun K hK=>?_)
      have RX:=Kd.R_below hR.out hB.out
      have BX:=boxed_below hv.out hB.out
      have HB:=hB.out.mono (Nat.le_of_lt hv.out.lt)
      refine Kd.R_lit_step Kd.string _ 9 ?hg (N:=29) ?hd (xs:=([y ++ en] : List ByteArray)) (inner:=[.string (y ++ en)]) (ok:=fun _=>True) (okp:=fun _=>True) ?hr ?hp (fun _ hk=>hk) trivial (Below.refl w2.heap.size w2) (Nat.le_refl _) (by simp) ?_;(case hd=>rfl);(case hg=>rfl);(case hr=>first | (go_simp;done) | (go_simp;rfl));(case hp=>exact (Reps.one (show Kd.M Kd.string _ _ _ (y ++ en) [.string (y ++ en)] from rfl) (Reps.none _ _)))
      intro v4 w4 RY hb4 _ _
      replace RX:=Kd.R_below RX hb4
      replace BX:=boxed_below BX hb4
      replace hB:=Lib.hid (hB.out.trans (hb4.mono hB.out.size))
      obtain ⟨B4,b4,rfl⟩:=Kd.R_slice RY
      clear hb4 hHeld HB
      refine hK.out _ _ (BX.cell) (fun hHeld=>?_)
      clear hK K
      refine norm_ (a':=?_) ?_ ?_
      rotate_left
      · show Act.put _ (some 29) _ = _
        simp only [Act.put,List.setIfInBounds_toArray,List.set_cons_zero,List.set_cons_succ,i64_w,i32_w];rfl
      refine one_ (i:=5) (N:=some 30) #[true,true,true,true,true,true,false] rfl rfl (by kernel_rfl) (by decide) (fun K hK=>?_)
      have HB:=hB.out.mono (Nat.le_of_lt hv.out.lt)
      refine Kd.R_append_rows_step Kd.string (w0:=w) bv (by rfl) (.tmp 25) (.tmp 29) 25 9 (.string ⟨#[]⟩) 16 rfl Tryz.underlying25 str_info rfl (by decide) (by decide) (.slice A xs.length cc) xs [y ++ en] _ _ _ (fun _=>True) (fun _=>False) rfl rfl ?aO ?aR (fun _ _ h=>h) (fun _ h=>h.elim) ?aF ?aB ?aS ?aL ?_
      (case aR=>exact (Kd.R_reads' RY).2.2)
      (case aB=>exact HB)
      (case aF=>exact (fun _ _=>trivial))
      (case aO=>exact RX)
      (case aS=>exact Nat.le_of_lt BX.lt)
      (case aL=>simp only [List.length_singleton];omega)
      intro v5 w5 R5 HB5 hg5 _
      obtain ⟨A5,n5,c5,rfl⟩:=R_slice3 R5
      have K5 : ∀ (k : Nat) (cs : Array Value) (t : TypeId),w.heap[k]? = some (.cells cs t (0,0)) → t ≠ 9 → w5.heap[k]? = some (.cells cs t (0,0)):=fun k cs t hk ht=>blk_grown (blk_below hk hB.out) hg5 (Kd.R_ne RX (blk_below hk hB.out) (fun e=>ht e.symm))
      have B5 : Boxed w5 bv 25 _:=K5 bv _ _ hv.out (by decide)
      have S5 : w.heap.size ≤ w5.heap.size:=Nat.le_trans hB.out.size hg5.size
      clear RX RY BX HB hHeld hB hg5
      refine hK.out _ _ (B5.cell) (fun hHeld=>?_)
      clear hK K
      refine norm_ (a':=?_) ?_ ?_
      rotate_left
      · show Act.put _ (some 30) _ = _
        simp only [Act.put,List.setIfInBounds_toArray,List.set_cons_zero,List.set_cons_succ,i64_w,i32_w];rfl
      refine last_ (i:=6) (N:=none) #[true,true,true,true,true,true,true] rfl rfl (by kernel_rfl) (by decide) (fun K hK=>?_)
      have FZ:=B5.frozen
      have C5:=B5.cell
      have B6:=B5.set (.slice A5 n5 c5)
      have R6:=Kd.R_set R5 B5 (by decide) 0 (.slice A5 n5 c5)
      have K6 : ∀ (k : Nat) (cs : Array Value) (t : TypeId),w.heap[k]? = some (.cells cs t (0,0)) → t ≠ 9 → k ≠ bv → (w5.setCell ⟨bv,0,none⟩ (.slice A5 n5 c5)).heap[k]? = some (.cells cs t (0,0)):=fun k cs t hk ht hne=>by rw [Below.heap_setCell _ _ _ k hne];exact K5 k cs t hk ht
      have H6:=HB5.setCell (p:=⟨bv,0,none⟩) (Nat.le_refl _) (.slice A5 n5 c5)
      have S6 : w.heap.size ≤ (w5.setCell ⟨bv,0,none⟩ (.slice A5 n5 c5)).heap.size:=by simpa using S5
      refine skip_ (w1:=w5.setCell ⟨bv,0,none⟩ (.slice A5 n5 c5)) (by rfl) rfl (by first | (go_simp;done) | (go_simp;rfl)) ?_
      refine hK.out _ _ ?_
      clear hK K
      refine done_ (by kernel_rfl) ?_
      try go_wp2
      go_end0
      exact ⟨rfl,_,B6,by rw [hy.out];exact R6,H6,S6,K6⟩
end Go.Proofs.YtpfbcepgmigeiaaGreatDoor.Q
end
section
namespace Go.Proofs.YtpfbcepgmigeiaaGreatDoor.Q
open Go.RowKit Go.Proofs.YtpfbcepgmigeiaaGreatDoorW.PrintWords Go.Proofs.YtpfbcepgmigeiaaGreatDoorW.PrintLast Go.Proofs.YtpfbcepgmigeiaaGreatDoorW.PrintMore
set_option linter.unusedVariables false
set_option linter.unusedSimpArgs false
open Go.Proofs.YtpfbcepgmigeiaaGreatDoorS
theorem pgbad_iff (bl : List Bool) (cells : List ByteArray) : ∀ (d i : Nat),pbad bl cells d i = false → ∀ j,i ≤ j → j < i + d → pbad1 bl cells j = false
  | 0,i,_,j,h1,h2=>by omega
  | d + 1,i,h,j,h1,h2=>by
    simp only [pbad,Bool.or_eq_false_iff] at h
    by_cases e : j = i
    · rw [e];exact h.1
    · exact pgbad_iff bl cells d (i + 1) h.2 j (by omega) (by omega)
theorem pcheck_right {title : ByteArray} {H W : Int} {bl ri be : List Bool} {cells clues : List ByteArray} (h : pcheck title H W bl ri be cells clues = 0) : gcheck H W bl ri be = 0 ∧ cells.length = bl.length ∧ (∀ s ∈ cells,CellOk s) ∧ clues.length = (slotsOf H W bl ri be).length ∧ (clues ++ [title]).all uline = true:=by
  unfold pcheck at h
  split at h
  · rename_i hg
    split at h
    · rename_i hs
      split at h
      · cases h
      · rename_i hb
        split at h
        · rename_i hc
          split at h
          · rename_i hl
            refine ⟨hg,hs,fun s hm=>?_,hc,hl⟩
            obtain ⟨j,hj,rfl⟩:=List.mem_iff_getElem.1 hm
            have h1:=pgbad_iff bl cells cells.length 0 (by simpa using hb) j (Nat.zero_le _) (by omega)
            have e : rdOf ByteArray.empty cells (j : Int) = cells[j]:=by simp [rdOf,List.getD_eq_getElem?_getD,hj]
            unfold pbad1 at h1
            rw [e] at h1
            rw [Bool.and_eq_false_iff] at h1
            rcases h1 with h1 | h1
            · have h2 : cells[j].toList = []:=by simpa using h1
              have h4 : cells[j].data.toList = []:=by
                rw [← ByteArray.toList_eq]
                exact h2
              have h3 : cells[j] = ⟨#[]⟩:=by
                rw [← ba_of_list cells[j],h4]
              rw [h3]
              exact cell_empty
            · rw [Bool.or_eq_false_iff] at h1
              exact cell_letter (by simpa using h1.2)
          · cases h
        · cases h
    · cases h
  · rename_i hg
    exact absurd h hg
theorem pnums_snoc {L : List S48} {m : Nat} (h : m < L.length) (n : Nat) : pnums (L.take (m + 1)) n = (pnums (L.take m) n).set (rd (rd_T48 L (m : Int)).f2 0).toNat (itoaB (rd_T48 L (m : Int)).f0):=by
  have e : rd_T48 L (m : Int) = L[m]:=by
    unfold rd_T48
    rw [List.getD_eq_getElem?_getD,List.getElem?_eq_getElem (by exact h)]
    rfl
  rw [e]
  unfold pnums
  rw [List.take_succ_eq_append_getElem h,List.foldl_append]
  rfl
theorem pg_idx {H W : Int} {r c : Nat} (hr : (r : Int) < H) (hW : 1 ≤ W) (hc : (c : Int) < W) : 0 ≤ (r : Int) * W + (c : Int) ∧ (r : Int) * W + (c : Int) < H * W ∧ (0 < r → W ≤ (r : Int) * W + (c : Int)):=by
  have h0 : 0 ≤ (r : Int) * W:=Int.mul_nonneg (by omega) (by omega)
  have h1 : ((r : Int) + 1) * W ≤ H * W:=Int.mul_le_mul_of_nonneg_right (by omega) (by omega)
  rw [Int.add_mul,Int.one_mul] at h1
  refine ⟨by omega,by omega,fun h=>?_⟩
  have h2 : (1 : Int) * W ≤ (r : Int) * W:=Int.mul_le_mul_of_nonneg_right (by omega) (by omega)
  rw [Int.one_mul] at h2
  omega
theorem app12 (a b c : Value) : (#[a] ++ #[b,c] : Array Value) = #[a,b,c]:=by simp
theorem app10 (a : Value) : (#[a] ++ #[] : Array Value) = #[a]:=by simp
theorem top_size {W : Int} {be : List Bool} {r : Nat} (i : Int) : (topB W be r i).size ≤ 4194304:=by
  unfold topB
  split
  · show (4 : Nat) ≤ 4194304;omega
  · show (4 : Nat) ≤ 4194304;omega
theorem fill_size {W : Int} {bl ri : List Bool} (i : Int) {s : ByteArray} (h : s.size ≤ 2097152) : (fillB W bl ri i s).size ≤ 4194304:=by
  unfold fillB
  have h1 : (sideB W ri i).size = 1:=by unfold sideB;split <;> rfl
  rw [ByteArray.size_append,h1]
  split
  · show 1 + 3 ≤ 4194304;omega
  · omega
theorem pad_size {s : ByteArray} : (padB s).size ≤ s.size + 3:=by
  unfold padB
  rw [ByteArray.size_append,spB_size]
  omega
theorem mid_size {s : ByteArray} : (midB s).size ≤ s.size + 4:=by
  unfold midB
  split
  · have h1:=pad_size (s:=⟨#[32]⟩ ++ s)
    have e2 : (⟨#[32]⟩ : ByteArray).size = 1:=rfl
    rw [ByteArray.size_append,e2] at h1
    omega
  · omega
theorem rd_small {l : List ByteArray} (h : Small l) (i : Int) : (rdOf ByteArray.empty l i).size ≤ 1048576:=by
  by_cases hi : i.toNat < l.length
  · exact h _ (prd_mem hi)
  · rw [prd_far hi];show (0 : Nat) ≤ _;omega
theorem pg_num {bg bs bf bn : Nat} {H W : Int} {A2 : Option Addr} {c2 : Nat} {bl : List Bool} {A3 : Option Addr} {c3 : Nat} {ri : List Bool} {A4 : Option Addr} {c4 : Nat} {be : List Bool} {An : Option Addr} {cn : Nat} {nums : List ByteArray} {r c : Nat} {w : World} (hr : (r : Int) < H) (hW : 1 ≤ W) (hc : (c : Int) < W) (hl : (bl.length : Int) = H * W) (hok : ∀ s ∈ nums,NumOk s) (hln : nums.length = bl.length) (hg : GridIs H W A2 c2 bl A3 c3 ri A4 c4 be w) (hb : GridBox bg H W A2 c2 bl A3 c3 ri A4 c4 be w) (hs : w.cell? ⟨bs,0,none⟩ = some (.func (.func 29) #[] #[.pointer (some ⟨bg,0,none⟩)])) (hf : w.cell? ⟨bf,0,none⟩ = some (.func (.func 30) #[] #[.pointer (some ⟨bg,0,none⟩),.pointer (some ⟨bs,0,none⟩)])) (hn : w.cell? ⟨bn,0,none⟩ = some (.slice An nums.length cn)) (hC : Kd.C Kd.string w An nums.length nums) :
    Calls Tryz.prog 32 (#[.int .i64 ((r : Int) * W + (c : Int))] ++ #[.pointer (some ⟨bf,0,none⟩),.pointer (some ⟨bn,0,none⟩)]) w fun e w'=>e = .returned (.string (fillB W bl ri ((r : Int) * W + (c : Int)) (padB (rdOf ByteArray.empty nums ((r : Int) * W + (c : Int)))))) ∧ Below w.heap.size w w':=by
  have ix:=pg_idx hr hW hc
  rw [app12]
  exact num_calls hg hb hs hf hn hC hln hok ix.1 (by rw [hl];exact ix.2.1)
theorem pg_cel {bg bs bf bp : Nat} {H W : Int} {A2 : Option Addr} {c2 : Nat} {bl : List Bool} {A3 : Option Addr} {c3 : Nat} {ri : List Bool} {A4 : Option Addr} {c4 : Nat} {be : List Bool} {A5 : Option Addr} {c5 : Nat} {cells : List ByteArray} {r c : Nat} {w : World} (hr : (r : Int) < H) (hW : 1 ≤ W) (hc : (c : Int) < W) (hl : (bl.length : Int) = H * W) (hok : ∀ s ∈ cells,CellOk s) (hsm : Small cells) (hln : cells.length = bl.length) (hg : GridIs H W A2 c2 bl A3 c3 ri A4 c4 be w) (hb : GridBox bg H W A2 c2 bl A3 c3 ri A4 c4 be w) (hs : w.cell? ⟨bs,0,none⟩ = some (.func (.func 29) #[] #[.pointer (some ⟨bg,0,none⟩)])) (hf : w.cell? ⟨bf,0,none⟩ = some (.func (.func 30) #[] #[.pointer (some ⟨bg,0,none⟩),.pointer (some ⟨bs,0,none⟩)])) (hn : w.cell? ⟨bp,6,none⟩ = some (.slice A5 cells.length c5)) (hC : Kd.C Kd.string w A5 cells.length cells) :
    Calls Tryz.prog 34 (#[.int .i64 ((r : Int) * W + (c : Int))] ++ #[.pointer (some ⟨bf,0,none⟩),.pointer (some ⟨bp,0,none⟩)]) w fun e w'=>e = .returned (.string (fillB W bl ri ((r : Int) * W + (c : Int)) (midB (rdOf ByteArray.empty cells ((r : Int) * W + (c : Int)))))) ∧ Below w.heap.size w w':=by
  have ix:=pg_idx hr hW hc
  rw [app12]
  exact cel_calls hg hb hs hf hn hC hln hok hsm ix.1 (by rw [hl];exact ix.2.1)
def DrawOk (l : List ByteArray) (w : World) (e : Ending) (w' : World) : Prop:=∃ v,e = .returned (.tuple #[v,.int .i64 0]) ∧ Kd.R Kd.string 9 w' w.heap.size (fun _=>True) v l ∧ Below w.heap.size w w'
set_option maxHeartbeats 8000000 in
set_option maxRecDepth 1000000 in
theorem draw_bad {title : ByteArray} {H W : Int} {A2 : Option Addr} {c2 : Nat} {bl : List Bool} {A3 : Option Addr} {c3 : Nat} {ri : List Bool} {A4 : Option Addr} {c4 : Nat} {be : List Bool} {A5 : Option Addr} {c5 : Nat} {cells : List ByteArray} {A6 : Option Addr} {c6 : Nat} {clues : List ByteArray} {w : World} (hT : Tabs w) (hP : PuzR A2 c2 bl A3 c3 ri A4 c4 be A5 c5 cells A6 c6 clues w) (hz : PuzS title cells clues) {er : Int} (hp : pcheck title H W bl ri be cells clues = er) (he : er ≠ 0) :
    Calls Tryz.prog 12 #[.agg #[.string title,.int .i64 H,.int .i64 W,.slice A2 bl.length c2,.slice A3 ri.length c3,.slice A4 be.length c4,.slice A5 cells.length c5,.slice A6 clues.length c6]] w fun e w'=>e = .returned (.tuple #[.slice none 0 0,.int .i64 er]) ∧ Below w.heap.size w w':=by
  have hx:=box1 w (.cells #[.string title,.int .i64 H,.int .i64 W,.slice A2 bl.length c2,.slice A3 ri.length c3,.slice A4 be.length c4,.slice A5 cells.length c5,.slice A6 clues.length c6] 27)
  have px:=cells8 hx.1
  replace hx:=Lib.hid hx
  replace hp:=Lib.hid hp
  have hu27:=Tryz.underlying27
  have hu24:=Tryz.underlying24
  have te : (er != 0) = true:=bne_iff_ne.2 he
  go_enter Tryz.func12,Tryz.ntmps12
  go_wp2_with (go_at_call 13;go_must (refine (page_calls (tabs_below hT hx.out.2) (hP.below hx.out.2) hz).mono ?_;rw [hp.out];rintro e w3 ⟨rfl,hb3⟩))
  go_ret2
  exact ⟨rfl,below_step hx.out.2 hb3⟩
set_option maxHeartbeats 8000000 in
set_option maxRecDepth 1000000 in
theorem draw_ok {title : ByteArray} {H W : Int} {A2 : Option Addr} {c2 : Nat} {bl : List Bool} {A3 : Option Addr} {c3 : Nat} {ri : List Bool} {A4 : Option Addr} {c4 : Nat} {be : List Bool} {A5 : Option Addr} {c5 : Nat} {cells : List ByteArray} {A6 : Option Addr} {c6 : Nat} {clues : List ByteArray} {w : World} (hT : Tabs w) (hP : PuzR A2 c2 bl A3 c3 ri A4 c4 be A5 c5 cells A6 c6 clues w) (hz : PuzS title cells clues) (hp : pcheck title H W bl ri be cells clues = 0) :
    Calls Tryz.prog 12 #[.agg #[.string title,.int .i64 H,.int .i64 W,.slice A2 bl.length c2,.slice A3 ri.length c3,.slice A4 be.length c4,.slice A5 cells.length c5,.slice A6 clues.length c6]] w (DrawOk (drawB H W bl ri be cells) w):=by
  obtain ⟨hg,hs,hok,-,-⟩:=pcheck_right hp
  obtain ⟨hH,hW,hl⟩:=gcheck_ok hg
  have hm:=mul_small hH hW
  have hn : 1 ≤ bl.length ∧ bl.length ≤ 256:=by omega
  have hfir:=slots_first hg
  have hnum:=slots_num hg hn.2
  have hfac:=(slotsOf_facts hg).1
  have hLs : slots_List.f H W bl ri be = some (slotsOf H W bl ri be):=rfl
  obtain ⟨L,hL⟩ : ∃ L,slotsOf H W bl ri be = L:=⟨_,rfl⟩
  have hdr : drawB H W bl ri be cells = rowsB W bl ri be (pnums L cells.length) cells H.toNat ++ [rowB W 0 (fun _=>⟨#[43,45,45,45]⟩) ⟨#[43]⟩]:=by unfold drawB;rw [hL]
  rw [hdr]
  rw [hL] at hfir hnum hfac hLs
  clear hdr
  have hx:=box1 w (.cells #[.string title,.int .i64 H,.int .i64 W,.slice A2 bl.length c2,.slice A3 ri.length c3,.slice A4 be.length c4,.slice A5 cells.length c5,.slice A6 clues.length c6] 27)
  have px:=cells8 hx.1
  replace hx:=Lib.hid hx
  replace hp:=Lib.hid hp
  replace hok:=Lib.hid hok
  replace hfir:=Lib.hid hfir
  replace hnum:=Lib.hid hnum
  replace hfac:=Lib.hid hfac
  replace hLs:=Lib.hid hLs
  replace hL:=Lib.hid hL
  replace hm:=Lib.hid hm
  replace hl:=Lib.hid hl
  replace hg:=Lib.hid hg
  replace hs:=Lib.hid hs
  have hu27:=Tryz.underlying27
  have hu24:=Tryz.underlying24
  have hz0:=hz
  replace hz:=Lib.hid hz
  have t0 : ((0 : Int) != 0) = false:=rfl
  go_enter Tryz.func12,Tryz.ntmps12
  go_wp2_with (first
    | (go_at_call 13;go_must (refine (page_calls (tabs_below hT hx.out.2) (hP.below hx.out.2) hz0).mono ?_;rw [hp.out];rintro e w3 ⟨rfl,hb3⟩;have bP3:=blk_below hx.out.1 hb3;have p3:=cells8 bP3;have hB3:=Lib.hid (below_step hx.out.2 hb3);have q4:=box1 w3 (.cells #[.int .i64 H,.int .i64 W,.slice A2 bl.length c2,.slice A3 ri.length c3,.slice A4 be.length c4] 24);have bP4:=blk_below bP3 q4.2;have p4:=cells8 bP4;replace bP4:=Lib.hid bP4;obtain ⟨g40,g41,g42,g43,g44⟩:=GridBox.of q4.1;have q40:=Lib.hid q4.1;have hB4:=Lib.hid (below_step hB3.out q4.2);clear q4 hb3 bP3))
    | ((with_reducible refine gate_ (.makeSlice 25 (.tmp 23) (.tmp 23)) rfl ?_);go_must (refine Kd.R_make Kd.string (w0:=w) w.heap.size 9 (by rfl) (N:=24) (by rfl) 25 _ _ rfl (cells.length : Int) rfl rfl Tryz.underlying25 (.string ⟨#[]⟩) 16 str_info rfl (by decide) (by decide) (⟨#[]⟩ : ByteArray) (ok:=fun _=>True) (okp:=fun _=>True) rfl (fun _ h=>h) trivial (by omega) (by have:=hz.out.l;omega) hB4.out hB4.out.size ?_;intro v5 w5 hR5 hB5 hg5 _;obtain ⟨gn,cn,rfl⟩:=R_form_n hR5 (n:=cells.length) (by rw [List.length_replicate];rfl) (by have:=hs.out;omega);have q6:=box1 w5 (.cells #[.slice (some ⟨gn,0,none⟩) cells.length cn] 25);have P6:=Lib.hid (blk_below (blk_grown bP4.out hg5 (by simp)) q6.2);have p6:=cells8 P6.out;have G6:=Lib.hid (blk_below (blk_grown q40.out hg5 (by simp)) q6.2);obtain ⟨g60,g61,g62,g63,g64⟩:=GridBox.of G6.out;have N6:=Lib.hid q6.1;have n6:=(blk_cell q6.1 0).trans rfl;have R6:=Lib.hid (Kd.R_below hR5 q6.2);have B6:=Lib.hid (below_step hB5 q6.2);clear q6 hR5 hB5 hg5))
    | (go_at_call 14;go_must (have hPx:=hP.below B6.out;refine (slots_List.calls _ _ _ _ _ _ _ _ _ _ _ _ _ hPx.r2 hPx.k2 hPx.r3 hPx.k3 hPx.r4 hPx.k4 hLs.out).mono ?_;clear hPx;rintro e w7 ⟨vL,rfl,hS7,hb7⟩;obtain ⟨AL,cL,rfl⟩:=Kd.S_slice hS7;replace hS7:=Lib.hid (Kd.S_lower hS7 B6.out.size);have P7:=Lib.hid (blk_below P6.out hb7);have G7:=Lib.hid (blk_below G6.out hb7);have N7:=Lib.hid (blk_below N6.out hb7);have R7:=Lib.hid (Kd.R_below R6.out hb7);have B7:=Lib.hid (below_step B6.out hb7);clear hb7)))
  clear hB3 hB4 bP4 q40 g40 g41 g42 g43 g44 P6 p6 G6 g60 g61 g62 g63 g64 N6 n6 R6 B6 p3 p4 px
  go_loopw [28] (fun v28 wr=>∃ (m : Nat) (j : Int),v28 = .int .i64 j ∧ Hid (j = m ∧ m ≤ L.length) ∧ Hid (wr.heap[w.heap.size]? = some (.cells #[.string title,.int .i64 H,.int .i64 W,.slice A2 bl.length c2,.slice A3 ri.length c3,.slice A4 be.length c4,.slice A5 cells.length c5,.slice A6 clues.length c6] 27 (0,0))) ∧ Hid (wr.heap[w3.heap.size]? = some (.cells #[.int .i64 H,.int .i64 W,.slice A2 bl.length c2,.slice A3 ri.length c3,.slice A4 be.length c4] 24 (0,0))) ∧ Hid (wr.heap[w5.heap.size]? = some (.cells #[.slice (some ⟨gn,0,none⟩) cells.length cn] 25 (0,0))) ∧ Hid (Kd.R Kd.string 9 wr w.heap.size (fun _=>True) (.slice (some ⟨gn,0,none⟩) cells.length cn) (pnums (L.take m) cells.length)) ∧ Hid (Kd.S k48 48 wr w.heap.size (fun _=>True) (.slice AL L.length cL) L) ∧ Hid (Below w.heap.size w wr)) (fun v28 _=>L.length - (intOf v28).toNat)
  case atStart=>exact ⟨0,0,rfl,Lib.hid ⟨rfl,Nat.zero_le _⟩,P7,G7,N7,R7,hS7,B7⟩
  case round =>
    clear P7 G7 N7 R7 hS7 B7
    obtain ⟨m,j,rfl,hj,P7,G7,N7,R7,hS7,B7⟩:=hrel
    by_cases hlt : m < L.length
    · have tlt : decide (j < (L.length : Int)) = true:=decide_eq_true (by have:=hj.out;omega)
      have hj0 : 0 ≤ j:=by have:=hj.out;omega
      have hj1 : j < (L.length : Int):=by have:=hj.out;omega
      obtain ⟨ad,Ax,cx,eA,z0,z1,z2,zc,hC⟩:=at_T48 (Kd.S_reads' hS7.out).2.2 j hj0 hj1
      cases eA
      obtain ⟨x,hx2⟩ : ∃ x,rd_T48 L j = x:=⟨_,rfl⟩
      have hjm : rd_T48 L j ∈ L:=by rw [hj.out.1];exact mem_rd hlt
      have hsn:=pnums_snoc hlt cells.length
      rw [← hj.out.1] at hsn
      rw [hx2] at z0 z1 z2 zc hC hjm hsn
      have hf1:=hfir.out x hjm
      have hn1:=hnum.out x hjm
      have hsc:=hs.out
      obtain ⟨adx,eAx,zx⟩:=Kd.at_int hC 0 (Int.le_refl _) (by omega)
      cases eAx
      obtain ⟨k,hk⟩ : ∃ k,rd x.f2 0 = k:=⟨_,rfl⟩
      rw [hk] at zx hsn hf1
      replace zx : wr.cell? adx = some (.int .i64 k):=zx
      have hx20 : 0 < x.f2.length:=by omega
      have hk0 : 0 ≤ k:=hf1.2.1
      have hk1 : k < (cells.length : Int):=by omega
      have hxn0 : 1 ≤ x.f0:=hn1.1
      have hxn1 : x.f0 ≤ 256:=hn1.2
      have hu40:=Tryz.underlying48
      replace hsn:=Lib.hid hsn
      replace hx2:=Lib.hid hx2
      replace hk:=Lib.hid hk
      replace hlt:=Lib.hid hlt
      clear hjm hf1 hn1 hC hsc
      go_wp2
      have q8:=box1 wr (.cells #[.int .i64 x.f0,.bool x.f1,.slice (some adx) x.f2.length cx] 48)
      have D8:=below_drew q8.2
      have X8:=blk_drew q8.1
      have x8:=cells3 X8
      replace zx:=pw_cell_below D8 zx
      replace P7:=Lib.hid (blk_below P7.out D8)
      replace G7:=Lib.hid (blk_below G7.out D8)
      replace N7:=Lib.hid (blk_below N7.out D8)
      replace R7:=Lib.hid (Kd.R_below R7.out D8)
      replace hS7:=Lib.hid (Kd.S_below hS7.out D8)
      replace B7:=Lib.hid (below_step B7.out D8)
      clear q8 z0 z1 z2
      refine start_ (n:=10) (S:=fun w'=>w'.cell? ⟨w5.heap.size,0,none⟩ = some (.slice (some ⟨gn,0,none⟩) cells.length cn) ∧ w'.cell? ⟨wr.heap.size,0,none⟩ = some (.int .i64 x.f0) ∧ w'.cell? ⟨wr.heap.size,2,none⟩ = some (.slice (some adx) x.f2.length cx) ∧ w'.cell? adx = some (.int .i64 k)) (ds:=[9]) #[false,false,false,false,false,false,false,false,false,false] (by kernel_rfl) rfl rfl (⟨(blk_cell N7.out 0).trans rfl,x8.1,x8.2.2,zx⟩) (fun hHeld=>?_)
      generalize (wr.alloc (.cells #[.int .i64 x.f0,.bool x.f1,.slice (some adx) x.f2.length cx] 48)).drew = w8 at D8 X8 x8 zx P7 G7 N7 R7 hS7 B7 hHeld ⊢
      replace D8:=Lib.hid D8
      replace X8:=Lib.hid X8
      clear x8 zx
      refine pure_ (i:=1) (N:=some 33) (v:=?_) (a':=?_) #[false,true,false,false,false,false,false,false,false,false] rfl rfl (by kernel_rfl) (fun _ _ _ h=>h) (Or.inl ⟨by rfl,?_⟩) ?_ ?_
      rotate_left
      · intro w';go_simp;try with_reducible rfl
      rotate_left
      · simp only [Act.put,List.setIfInBounds_toArray,List.set_cons_zero,List.set_cons_succ,i64_w,i32_w];rfl
      refine pure_ (i:=5) (N:=some 37) (v:=?_) (a':=?_) #[false,true,false,false,false,true,false,false,false,false] rfl rfl (by kernel_rfl) (fun _ _ _ h=>h) (Or.inl ⟨by rfl,?_⟩) ?_ ?_
      rotate_left
      · intro w';go_simp;try with_reducible rfl
      rotate_left
      · simp only [Act.put,List.setIfInBounds_toArray,List.set_cons_zero,List.set_cons_succ,i64_w,i32_w];rfl
      refine take_ (i:=0) (N:=some 32) (v:=?_) (a':=?_) #[true,true,false,false,false,true,false,false,false,false] rfl rfl (by kernel_rfl) (fun _ _ _ h=>h) (Or.inl ⟨by rfl,?_⟩) hHeld ?_ ?_
      rotate_left
      · rintro w' ⟨s0,s1,s2,s3⟩;go_simp;try with_reducible rfl
      rotate_left
      · simp only [Act.put,List.setIfInBounds_toArray,List.set_cons_zero,List.set_cons_succ,i64_w,i32_w];rfl
      refine take_ (i:=2) (N:=some 34) (v:=?_) (a':=?_) #[true,true,true,false,false,true,false,false,false,false] rfl rfl (by kernel_rfl) (fun _ _ _ h=>h) (Or.inl ⟨by rfl,?_⟩) hHeld ?_ ?_
      rotate_left
      · rintro w' ⟨s0,s1,s2,s3⟩;go_simp;try with_reducible rfl
      rotate_left
      · simp only [Act.put,List.setIfInBounds_toArray,List.set_cons_zero,List.set_cons_succ,i64_w,i32_w];rfl
      refine pure_ (i:=3) (N:=some 35) (v:=?_) (a':=?_) #[true,true,true,true,false,true,false,false,false,false] rfl rfl (by kernel_rfl) (fun _ _ _ h=>h) (Or.inl ⟨by rfl,?_⟩) ?_ ?_
      rotate_left
      · intro w';go_simp;try with_reducible rfl
      rotate_left
      · simp only [Act.put,List.setIfInBounds_toArray,List.set_cons_zero,List.set_cons_succ,i64_w,i32_w];rfl
      refine take_ (i:=4) (N:=some 36) (v:=?_) (a':=?_) #[true,true,true,true,true,true,false,false,false,false] rfl rfl (by kernel_rfl) (fun _ _ _ h=>h) (Or.inl ⟨by rfl,?_⟩) hHeld ?_ ?_
      rotate_left
      · rintro w' ⟨s0,s1,s2,s3⟩;go_simp;try with_reducible rfl
      rotate_left
      · simp only [Act.put,List.setIfInBounds_toArray,List.set_cons_zero,List.set_cons_succ,i64_w,i32_w];rfl
      refine take_ (i:=6) (N:=some 38) (v:=?_) (a':=?_) #[true,true,true,true,true,true,true,false,false,false] rfl rfl (by kernel_rfl) (fun _ _ _ h=>h) (Or.inl ⟨by rfl,?_⟩) hHeld ?_ ?_
      rotate_left
      · rintro w' ⟨s0,s1,s2,s3⟩;go_simp;try with_reducible rfl
      rotate_left
      · simp only [Act.put,List.setIfInBounds_toArray,List.set_cons_zero,List.set_cons_succ,i64_w,i32_w];rfl
      refine one_ (i:=7) (N:=some 39) #[true,true,true,true,true,true,true,true,false,false] rfl rfl (by kernel_rfl) (by decide) (fun K hK=>?_)
      refine goes_ Tryz.func15 (by kernel_rfl) rfl #[.int .i64 x.f0] (by rfl) rfl rfl (by first | (go_simp;done) | (go_simp;rfl)) ?_
      refine (Tryz.strconv_Itoa x.f0 (by omega) (by omega) w8 (tabs_below hT B7.out).p).mono ?_
      rintro e w9 ⟨rfl,kk,os,hw9⟩
      have D9 : Below w8.heap.size w8 w9:=(by rw [hw9];exact Lib.below_grow _ _ (Nat.le_refl _) _ _)
      clear hw9
      refine ⟨_,rfl,?_⟩
      have HS9:=And.intro (pw_cell_below D9 hHeld.1) (And.intro (pw_cell_below D9 hHeld.2.1) (And.intro (pw_cell_below D9 hHeld.2.2.1) (pw_cell_below D9 hHeld.2.2.2)))
      replace P7:=Lib.hid (blk_below P7.out D9)
      replace G7:=Lib.hid (blk_below G7.out D9)
      replace N7:=Lib.hid (blk_below N7.out D9)
      replace R7:=Lib.hid (Kd.R_below R7.out D9)
      replace hS7:=Lib.hid (Kd.S_below hS7.out D9)
      replace B7:=Lib.hid (below_step B7.out D9)
      clear D9 hHeld
      refine hK.out _ _ (HS9) (fun hHeld=>?_)
      clear hK K
      refine norm_ (a':=?_) ?_ ?_
      rotate_left
      · show Act.put _ (some 39) _ = _
        simp only [Act.put,List.setIfInBounds_toArray,List.set_cons_zero,List.set_cons_succ,i64_w,i32_w];rfl
      clear HS9
      refine pure_ (i:=8) (N:=some 40) (v:=?_) (a':=?_) #[true,true,true,true,true,true,true,true,true,false] rfl rfl (by kernel_rfl) (fun _ _ _ h=>h) (Or.inl ⟨by rfl,?_⟩) ?_ ?_
      rotate_left
      · intro w';go_simp;try with_reducible rfl
      rotate_left
      · simp only [Act.put,List.setIfInBounds_toArray,List.set_cons_zero,List.set_cons_succ,i64_w,i32_w];rfl
      refine last_ (i:=9) (N:=none) #[true,true,true,true,true,true,true,true,true,true] rfl rfl (by kernel_rfl) (by decide) (fun K hK=>?_)
      have FC:=Kd.R_celln ByteArray.empty R7.out k hk0 hk1
      have FZ:=FC.2
      replace FC:=FC.1
      have PG:=Kd.R_putg R7.out k (itoaB x.f0)
      have P9:=Lib.hid (blk_grown P7.out PG.2 (Kd.R_ne R7.out P7.out (by decide)))
      have G9:=Lib.hid (blk_grown G7.out PG.2 (Kd.R_ne R7.out G7.out (by decide)))
      have N9:=Lib.hid (blk_grown N7.out PG.2 (Kd.R_ne R7.out N7.out (by decide)))
      have S9:=Lib.hid (Kd.S_over' (v:=.slice (some ⟨gn,0,none⟩) cells.length cn) hS7.out (Kd.R_typed R7.out) (by decide) PG.2)
      have B9:=Lib.hid (B7.out.setCell (p:=⟨gn,k.toNat,none⟩) (Kd.R_base R7.out gn rfl) (.string (itoaB x.f0)))
      have R9:=PG.1
      rw [← hsn.out] at R9
      replace R9:=Lib.hid R9
      clear PG P7 G7 N7 R7 hS7 B7 hHeld
      refine skip_ (w1:=w9.setCell ⟨gn,k.toNat,none⟩ (.string (itoaB x.f0))) (by rfl) rfl (by first | (go_simp;done) | (go_simp;rfl)) ?_
      generalize w9.setCell ⟨gn,k.toNat,none⟩ (.string (itoaB x.f0)) = w10 at P9 G9 N9 S9 B9 R9 ⊢
      refine hK.out _ _ ?_
      clear hK K
      refine done_ (by kernel_rfl) ?_
      go_wp2
      obtain ⟨j2,hj2⟩ : ∃ j2,wrap64 (j + 1) = j2:=⟨_,rfl⟩
      rw [hj2]
      rw [w64 (by omega) (by have:=hfac.out;omega)] at hj2
      refine ⟨⟨m + 1,j2,rfl,Lib.hid ⟨by have:=hj.out;omega,hlt.out⟩,P9,G9,N9,R9,S9,B9⟩,?_⟩
      simp only [intOf];have:=hj.out;have:=hlt.out;omega
    · obtain ⟨wo,rfl⟩ : ∃ x,x = wr:=⟨_,rfl⟩
      have tlt : decide (j < (L.length : Int)) = false:=decide_eq_false (by have:=hj.out;omega)
      have hmE : m = L.length:=by have:=hj.out;omega
      have R8:=R7.out
      rw [hmE,List.take_length] at R8
      obtain ⟨nums,hN⟩ : ∃ x,pnums L cells.length = x:=⟨_,rfl⟩
      have hno:=nums_ok hnum.out cells.length
      rw [hN] at R8 hno
      have hg7:=hP.below B7.out
      replace R8:=Lib.hid R8
      replace hno:=Lib.hid hno
      replace hN:=Lib.hid hN
      clear hlt R7 hS7
      have qA:=box3 wo (.cells #[.slice none 0 0] 25) (.cells #[.func (.func 29) #[] #[.pointer (some ⟨w3.heap.size,0,none⟩)]] 49) (.cells #[.func (.func 30) #[] #[.pointer (some ⟨w3.heap.size,0,none⟩),.pointer (some ⟨wo.heap.size + 1,0,none⟩)]] 68)
      obtain ⟨gA0,gA1,gA2,gA3,gA4⟩:=GridBox.of (blk_below G7.out qA.2.2.2)
      replace qA:=Lib.hid qA
      replace hg7:=Lib.hid hg7
      replace hj:=Lib.hid hj.out.1
      clear hmE
      go_wp2
      go_loopw [47] (fun v47 wl=>∃ (r : Nat) (i : Int) (v : Value),v47 = .int .i64 i ∧ Hid (i = r ∧ r ≤ H.toNat) ∧ Hid (Boxed wl wo.heap.size 25 v) ∧ Hid (Kd.R Kd.string 9 wl wo.heap.size (fun _=>True) v (rowsB W bl ri be nums cells r)) ∧ Hid (Boxed wl (wo.heap.size + 1) 49 (.func (.func 29) #[] #[.pointer (some ⟨w3.heap.size,0,none⟩)])) ∧ Hid (Boxed wl (wo.heap.size + 1 + 1) 68 (.func (.func 30) #[] #[.pointer (some ⟨w3.heap.size,0,none⟩),.pointer (some ⟨wo.heap.size + 1,0,none⟩)])) ∧ Hid (Below wo.heap.size wo wl)) (fun v47 _=>H.toNat - (intOf v47).toNat)
      case atStart=>exact ⟨0,0,_,rfl,Lib.hid ⟨rfl,Nat.zero_le _⟩,Lib.hid qA.out.1,Lib.hid (Kd.R_nil _ _ _ _ _),Lib.hid qA.out.2.1,Lib.hid qA.out.2.2.1,Lib.hid qA.out.2.2.2⟩
      case round =>
        clear qA gA0 gA1 gA2 gA3 gA4
        obtain ⟨r,i,v,rfl,hi,hv,hR,hSd,hFl,hB⟩:=hrel
        have hlt0:=hv.out.lt
        have hwr : w3.heap.size < wo.heap.size:=blk_lt G7.out
        by_cases hlt : r < H.toNat
        · have tlt : decide (i < H) = true:=decide_eq_true (by have:=hi.out;omega)
          have hE1 : i = (r : Int):=hi.out.1
          subst hE1
          have hri : (r : Int) < H:=by omega
          have hr16 : r ≤ 16:=by omega
          have hlen1 : (rowsB W bl ri be nums cells r).length ≤ 998:=by rw [rows_len];omega
          have q1:=box1 wr (.cells #[.int .i64 (r : Int)] 3)
          have rb1 : Boxed (wr.alloc (.cells #[.int .i64 (r : Int)] 3)) wr.heap.size 3 (.int .i64 (r : Int)):=q1.1
          have Sd1:=boxed_below hSd.out q1.2
          have Fl1:=boxed_below hFl.out q1.2
          have B1:=hB.out.trans (q1.2.mono hB.out.size)
          have c1:=row_calls (bg:=w3.heap.size) (cid:=31) (caps:=#[.pointer (some ⟨wr.heap.size,0,none⟩),.pointer (some ⟨w3.heap.size,0,none⟩)]) (en:=⟨#[43]⟩) (f:=topB W be r) hW hr16 (GridBox.of (blk_below G7.out B1)).2.1 (boxed_below hv.out q1.2) (Kd.R_below hR.out q1.2) (by omega) (by decide) top_size (fun args w1=>enters_ Tryz.func31 (by kernel_rfl) rfl args w1) (fun w1 hb1 c hc=>by
            have BX:=B1.trans (hb1.mono B1.size)
            have ix:=pg_idx hri hW.1 hc
            rw [app12]
            exact top_calls ((hg7.out.below BX).grid hg.out) (GridBox.of (blk_below G7.out BX)) (boxed_below rb1 hb1).cell ix.1 (by rw [hl.out.1];exact ix.2.1) ix.2.2 (by omega))
          have r1:=rb1.cell
          replace c1:=Lib.hid c1
          replace rb1:=Lib.hid rb1
          replace Sd1:=Lib.hid Sd1
          replace Fl1:=Lib.hid Fl1
          replace B1:=Lib.hid B1
          replace hlen1:=Lib.hid hlen1
          have tok1 : True:=trivial
          have tok2 : True:=trivial
          have tok3 : True:=trivial
          clear q1 hSd hFl hB hv hR
          go_wp2_with (first
            | (go_at_call 28;have tq:=tok1;go_must (clear tq tok1;refine c1.out.mono ?_;rintro e wa ⟨rfl,va,Va,Ra,Ba,sa,ka⟩;have rb2 : Boxed _ _ _ _:=ka _ _ _ rb1.out (by decide) (by omega);have Sd2 : Boxed _ _ _ _:=ka _ _ _ Sd1.out (by decide) (by omega);have Fl2 : Boxed _ _ _ _:=ka _ _ _ Fl1.out (by decide) (by omega);have B2:=B1.out.trans Ba;have c2:=row_calls (bg:=w3.heap.size) (cid:=32) (caps:=#[.pointer (some ⟨wo.heap.size + 1 + 1,0,none⟩),.pointer (some ⟨w5.heap.size,0,none⟩)]) (r:=r) (en:=⟨#[124]⟩) (f:=fun i=>fillB W bl ri i (padB (rdOf ByteArray.empty nums i))) hW hr16 (GridBox.of (blk_below G7.out B2)).2.1 Va Ra (by rw [List.length_append,List.length_singleton];have:=hlen1.out;omega) (by decide) (fun i=>fill_size i (by have h1:=pad_size (s:=rdOf ByteArray.empty nums i);have h2:=(rd_num hno.out.1 i).1;omega)) (fun args w1=>enters_ Tryz.func32 (by kernel_rfl) rfl args w1) (fun w1 hb1 c hc=>pg_num hri hW.1 hc hl.out.1 hno.out.1 (hno.out.2.trans hs.out) ((hg7.out.below (B2.trans (hb1.mono B2.size))).grid hg.out) (GridBox.of (blk_below G7.out (B2.trans (hb1.mono B2.size)))) (boxed_below Sd2 hb1).cell (boxed_below Fl2 hb1).cell (by rw [hno.out.2];exact (blk_cell (blk_below N7.out (B2.trans (hb1.mono B2.size))) 0).trans rfl) (Kd.R_reads' (Kd.R_below R8.out (B2.trans (hb1.mono B2.size)))).2.2);have r2:=rb2.cell;replace c2:=Lib.hid c2;replace rb2:=Lib.hid rb2;replace Sd2:=Lib.hid Sd2;replace Fl2:=Lib.hid Fl2;replace B2:=Lib.hid B2;clear c1 rb1 Sd1 Fl1 B1 r1 Va Ra Ba sa ka))
            | (go_at_call 28;have tq:=tok2;go_must (clear tq tok2;refine c2.out.mono ?_;rintro e wb ⟨rfl,vb,Vb,Rb,Bb,sb,kb⟩;have rb3 : Boxed _ _ _ _:=kb _ _ _ rb2.out (by decide) (by omega);have Sd3 : Boxed _ _ _ _:=kb _ _ _ Sd2.out (by decide) (by omega);have Fl3 : Boxed _ _ _ _:=kb _ _ _ Fl2.out (by decide) (by omega);have B3:=B2.out.trans Bb;have c3:=row_calls (bg:=w3.heap.size) (cid:=34) (caps:=#[.pointer (some ⟨wo.heap.size + 1 + 1,0,none⟩),.pointer (some ⟨w.heap.size,0,none⟩)]) (r:=r) (en:=⟨#[124]⟩) (f:=fun i=>fillB W bl ri i (midB (rdOf ByteArray.empty cells i))) hW hr16 (GridBox.of (blk_below G7.out B3)).2.1 Vb Rb (by rw [List.length_append,List.length_append,List.length_singleton,List.length_singleton];have:=hlen1.out;omega) (by decide) (fun i=>fill_size i (by have h1:=mid_size (s:=rdOf ByteArray.empty cells i);have h2:=rd_small hz.out.s i;omega)) (fun args w1=>enters_ Tryz.func34 (by kernel_rfl) rfl args w1) (fun w1 hb1 c hc=>pg_cel hri hW.1 hc hl.out.1 hok.out hz.out.s hs.out ((hg7.out.below (B3.trans (hb1.mono B3.size))).grid hg.out) (GridBox.of (blk_below G7.out (B3.trans (hb1.mono B3.size)))) (boxed_below Sd3 hb1).cell (boxed_below Fl3 hb1).cell ((blk_cell (blk_below P7.out (B3.trans (hb1.mono B3.size))) 6).trans rfl) (hg7.out.below (B3.trans (hb1.mono B3.size))).r5);have r3:=rb3.cell;replace c3:=Lib.hid c3;replace rb3:=Lib.hid rb3;replace Sd3:=Lib.hid Sd3;replace Fl3:=Lib.hid Fl3;replace B3:=Lib.hid B3;clear c2 rb2 Sd2 Fl2 B2 r2 Vb Rb Bb sb kb))
            | (go_at_call 28;have tq:=tok3;go_must (clear tq tok3;refine c3.out.mono ?_;rintro e wc ⟨rfl,vc,Vc,Rc,Bc,sc,kc⟩;have Sd4:=Lib.hid (show Boxed _ _ _ _ from kc _ _ _ Sd3.out (by decide) (by omega));have Fl4:=Lib.hid (show Boxed _ _ _ _ from kc _ _ _ Fl3.out (by decide) (by omega));have B4:=Lib.hid (B3.out.trans Bc);replace Vc:=Lib.hid Vc;replace Rc:=Lib.hid Rc;clear c3 rb3 Sd3 Fl3 B3 r3 Bc sc kc)))
          refine ⟨⟨r + 1,(r : Int) + 1,vc,rfl,Lib.hid ⟨by omega,hlt⟩,Vc,Lib.hid ?_,Sd4,Fl4,B4⟩,?_⟩
          · have h1:=Rc.out
            rw [List.append_assoc,List.append_assoc] at h1
            exact h1
          · simp only [intOf];omega
        · have tlt : decide (i < H) = false:=decide_eq_false (by have:=hi.out;omega)
          have hrE : r = H.toNat:=by have:=hi.out;omega
          subst hrE
          have c4:=row_calls (bg:=w3.heap.size) (cid:=36) (caps:=#[]) (r:=0) (en:=⟨#[43]⟩) (f:=fun _=>⟨#[43,45,45,45]⟩) hW (by omega) (GridBox.of (blk_below G7.out hB.out)).2.1 hv.out hR.out (by rw [rows_len];omega) (by decide) (fun i=>by show (4 : Nat) ≤ 4194304;omega) (fun args w1=>enters_ Tryz.func36 (by kernel_rfl) rfl args w1) (fun w1 hb1 c hc=>by rw [app10];exact dash_calls _ _)
          replace c4 : Calls Tryz.prog 28 #[.int .i64 0,.string ⟨#[43]⟩,.func (.func 36) #[] #[],.pointer (some ⟨w3.heap.size,0,none⟩),.pointer (some ⟨wo.heap.size,0,none⟩)] wr _:=c4
          replace c4:=Lib.hid c4
          clear hSd hFl
          go_wp2_with (go_at_call 28;go_must (refine c4.out.mono ?_;rintro e wd ⟨rfl,vd,Vd,Rd,Bd,sd,kd⟩;have y9:=Vd.cell;replace Rd:=Lib.hid Rd;replace Bd:=Lib.hid Bd;clear Vd kd))
          go_ret2
          refine ⟨_,rfl,?_,?_⟩
          · rw [hN.out]
            exact Kd.R_lower Rd.out B7.out.size
          · exact B7.out.trans ((hB.out.trans Bd.out).mono B7.out.size)
end Go.Proofs.YtpfbcepgmigeiaaGreatDoor.Q
end
section
namespace Go.Proofs.YtpfbcepgmigeiaaGreatDoor.Q
open Go Go.Lib Go.Proofs.YtpfbcepgmigeiaaGreatDoorS Go.Proofs.YtpfbcepgmigeiaaGreatDoorW.PrintWords Go.Proofs.YtpfbcepgmigeiaaGreatDoorW.PrintLast Go.Proofs.YtpfbcepgmigeiaaGreatDoorW.PrintMore
set_option linter.unusedVariables false
set_option linter.unusedSimpArgs false
def dnAt (L : List S48) (down : Bool) (m : Nat) : Bool:=(rd_T48 L (m : Int)).f1 == down
def clueAt (L : List S48) (down : Bool) (clues : List ByteArray) (width : Int) (m : Nat) : List ByteArray :=
  if dnAt L down m = true then clueL (rd_T48 L (m : Int)).f0 (wwL (rdOf ByteArray.empty clues (m : Int)) (width - 5)) else []
def cluesN (L : List S48) (down : Bool) (clues : List ByteArray) (width : Int) : Nat → List ByteArray
  | 0=>[]
  | m + 1=>cluesN L down clues width m ++ clueAt L down clues width m
def cntN (L : List S48) (down : Bool) : Nat → Nat
  | 0=>0
  | m + 1=>cntN L down m + (if dnAt L down m = true then 1 else 0)
def wantAt (L : List S48) (down : Bool) (clues : List ByteArray) (m : Nat) : List UInt8:=if dnAt L down m = true then catL (goFieldsP blk (rdOf ByteArray.empty clues (m : Int))) else []
def wantN (L : List S48) (down : Bool) (clues : List ByteArray) : Nat → List UInt8
  | 0=>[]
  | m + 1=>wantN L down clues m ++ wantAt L down clues m
def cluesB (H W : Int) (bl ri be : List Bool) (clues : List ByteArray) (down : Bool) (width : Int) : List ByteArray :=
  cluesN (slotsOf H W bl ri be) down clues width (slotsOf H W bl ri be).length
theorem tailL_length : ∀ (h : ByteArray) (T : List ByteArray),(tailL h T).length = T.length
  | _,[]=>rfl
  | h,x :: T=>by rw [tailL,List.length_cons,List.length_cons,tailL_length]
theorem clueL_length (n : Int) (T : List ByteArray) : (clueL n T).length ≤ T.length + 1:=by
  unfold clueL
  rw [List.length_append,tailL_length]
  split
  · simp only [List.length_singleton];omega
  · simp only [List.length_nil];omega
theorem uline_ok {c : ByteArray} (h : uline c = true) : uvalid c = true ∧ c.size ≤ 960:=by
  unfold uline at h
  simp only [Bool.and_eq_true,decide_eq_true_eq] at h
  exact ⟨h.2.1,h.1⟩
theorem line_at {title : ByteArray} {clues : List ByteArray} (h : (clues ++ [title]).all uline = true) {m : Nat} (hm : m < clues.length) : uvalid (rdOf ByteArray.empty clues (m : Int)) = true ∧ (rdOf ByteArray.empty clues (m : Int)).size ≤ 960:=by
  refine uline_ok (List.all_eq_true.1 h _ (List.mem_append_left _ (prd_mem (by simpa using hm))))
theorem clues_good {L : List S48} {down : Bool} {title : ByteArray} {clues : List ByteArray} {width : Int} (hw : 10 ≤ width) (hl : (clues ++ [title]).all uline = true) (hn : ∀ x ∈ L,1 ≤ x.f0 ∧ x.f0 ≤ 256) (hc : clues.length = L.length) :
    ∀ m : Nat,m ≤ L.length → Good width (cluesN L down clues width m) (cntN L down m) (wantN L down clues m) ∧ (cluesN L down clues width m).length ≤ 3001 * m
  | 0,_=>⟨Good.nil width,Nat.le_refl _⟩
  | m + 1,h=>by
    have ih:=clues_good (down:=down) hw hl hn hc m (by omega)
    have hm : m < L.length:=by omega
    obtain ⟨h1,h2⟩:=hn _ (mem_rd hm)
    obtain ⟨h3,h4⟩:=line_at hl (m:=m) (by omega)
    obtain ⟨T,t1,t2,-,t3⟩:=good_clue h1 h2 h3 h4 hw
    have hT : wwL (rdOf ByteArray.empty clues (m : Int)) (width - 5) = T:=by unfold wwL;rw [t1];rfl
    have hlen:=clueL_length (rd_T48 L (m : Int)).f0 T
    simp only [cluesN,cntN,wantN]
    by_cases hd : dnAt L down m = true
    · have e1 : clueAt L down clues width m = clueL (rd_T48 L (m : Int)).f0 T:=by unfold clueAt;rw [if_pos hd,hT]
      have e2 : wantAt L down clues m = catL (goFieldsP blk (rdOf ByteArray.empty clues (m : Int))):=by unfold wantAt;rw [if_pos hd]
      rw [e1,e2,if_pos hd,List.length_append]
      exact ⟨ih.1.append t2,by have:=ih.2;omega⟩
    · have e1 : clueAt L down clues width m = []:=by unfold clueAt;rw [if_neg hd]
      have e2 : wantAt L down clues m = []:=by unfold wantAt;rw [if_neg hd]
      rw [e1,e2,if_neg hd,List.append_nil,List.append_nil]
      exact ⟨ih.1,by have:=ih.2;omega⟩
theorem tailL_drop {h : ByteArray} {T : List ByteArray} {k : Nat} (hk : k < T.length) : tailL h (T.drop k) = (h ++ spc ++ rdOf ByteArray.empty T (k : Int)) :: tailL (spB 4) (T.drop (k + 1)):=by
  have e : rdOf ByteArray.empty T (k : Int) = T[k]:=by simp [rdOf,List.getD_eq_getElem?_getD,hk]
  rw [List.drop_eq_getElem_cons hk,e]
  rfl
theorem hdB_size {n : Int} (h1 : 1 ≤ n) (h2 : n ≤ 256) : (hdB n).size = 4:=by
  obtain ⟨l,e,-,-,h4,-⟩:=hd_en h1 h2
  rw [e,eb_size,h4]
end Go.Proofs.YtpfbcepgmigeiaaGreatDoor.Q
end
section
namespace Go.Proofs.YtpfbcepgmigeiaaGreatDoor.Q
open Go.RowKit Go.Shelf Go.Proofs.YtpfbcepgmigeiaaGreatDoorW.PrintWords Go.Proofs.YtpfbcepgmigeiaaGreatDoorW.PrintLast Go.Proofs.YtpfbcepgmigeiaaGreatDoorS
set_option linter.unusedVariables false
set_option linter.unusedSimpArgs false
set_option maxHeartbeats 4000000 in
set_option maxRecDepth 1000000 in
theorem words1_gives (W : World) (x : Nat) : FnGives Tryz.prog 79 #[] #[encR x] (.bool (blk x)) W:=by
  show Calls Tryz.prog 79 #[.int .i32 (x : Int)] W _
  have hb : (uclass (x : Int) == 3) = blk x:=rfl
  go_enter Tryz.func79,Tryz.ntmps79
  go_wp2_with (go_at_call 65;go_must (refine (fold_Class.calls 3 (x : Int) _ W (fold_Class_eq (x : Int))).mono ?_;rintro e w3 ⟨rfl,hd⟩))
  go_ret
  exact ⟨rfl,hd.out⟩
set_option maxHeartbeats 4000000 in
set_option maxRecDepth 1000000 in
theorem words_calls (s : ByteArray) (w : World) (hs : s.size ≤ 4294967296) :
    Calls Tryz.prog 48 #[.string s] w fun e w'=>∃ v,e = .returned v ∧ Kd.R Kd.string 9 w' w.heap.size (fun _=>True) v (Lib.goFieldsP blk s) ∧ Below w.heap.size w w':=by
  have hp : PredAt Tryz.prog 79 #[] encR blk w:=fun W x _=>words1_gives W x
  go_enter Tryz.func48,Tryz.ntmps48
  go_wp2_with (go_at_call 78;go_must (refine (Tryz.strings_FieldsFunc 79 #[] (fun _ _=>rfl) blk s w hs hp).mono ?_;rintro e w3 ⟨A,rfl,hA,hO,hb3⟩))
  go_ret
  exact ⟨_,rfl,Kd.R_of_own hO (fun _ _=>trivial),hb3⟩
end Go.Proofs.YtpfbcepgmigeiaaGreatDoor.Q
end
section
namespace Go.Proofs.YtpfbcepgmigeiaaGreatDoor.Q
open Go.RowKit Go.Shelf Go.Proofs.YtpfbcepgmigeiaaGreatDoorW.PrintWords Go.Proofs.YtpfbcepgmigeiaaGreatDoorW.PrintLast Go.Proofs.YtpfbcepgmigeiaaGreatDoorS
set_option linter.unusedVariables false
set_option linter.unusedSimpArgs false
theorem ufit_size (s : ByteArray) (n : Int) : (ufit s n).size ≤ s.size:=by
  unfold ufit
  split
  · exact Nat.zero_le _
  · split
    · rw [ByteArray.size_extract];omega
    · exact Nat.le_refl _
set_option maxHeartbeats 4000000 in
set_option maxRecDepth 1000000 in
theorem piece_calls {s : ByteArray} (hs : s.size ≤ 1048576) {width : Int} (h1 : width ≤ 120) (w : World) :
    Calls Tryz.prog 50 #[.string s,.int .i64 width] w fun e w'=>e = .returned (.string (wpiece s width)) ∧ Below w.heap.size w w':=by
  have hf:=ufit_size s width
  have hw : wpiece s width = if 0 < ucols (ufit s width) then ufit s width else ufit s 2:=rfl
  obtain ⟨p,hp⟩ : ∃ p,ufit s width = p:=⟨_,rfl⟩
  have hfit:=fit_any (n:=width) hs (by omega)
  rw [hp] at hw hf hfit
  obtain ⟨c,hc⟩ : ∃ c,ucols p = c:=⟨_,rfl⟩
  have hcol:=fun w=>columns_any p w (by omega)
  rw [hc] at hw
  simp only [hc] at hcol
  have hfit2:=fit_any (s:=s) (n:=2) hs (by omega)
  have B:=Below.refl w.heap.size w
  replace B:=Lib.hid B
  replace hfit:=Lib.hid hfit
  replace hfit2:=Lib.hid hfit2
  replace hcol:=Lib.hid hcol
  clear hp hc
  have tok1 : True:=trivial
  by_cases h : 0 < c
  · rw [if_pos h] at hw
    have hE:=Lib.hid hw
    clear hw
    go_enter Tryz.func50,Tryz.ntmps50
    go_wp2_with (first
      | (go_at_call 63;go_must (refine (hfit.out _).mono ?_;rintro e w3 ⟨rfl,hb3⟩;have B2:=Lib.hid (below_step B.out hb3);clear hb3))
      | (go_at_call 49;go_must (refine (hcol.out _).mono ?_;rintro e w4 ⟨rfl,hb4⟩;have B3:=Lib.hid (below_step B2.out hb4);clear hb4)))
    go_ret
    exact ⟨by rw [hE.out];rfl,B3.out⟩
  · rw [if_neg h] at hw
    have hE:=Lib.hid hw
    clear hw
    go_enter Tryz.func50,Tryz.ntmps50
    go_wp2_with (first
      | (go_at_call 63;have tq:=tok1;go_must (clear tq tok1;refine (hfit.out _).mono ?_;rintro e w3 ⟨rfl,hb3⟩;have B2:=Lib.hid (below_step B.out hb3);clear hb3))
      | (go_at_call 49;go_must (refine (hcol.out _).mono ?_;rintro e w4 ⟨rfl,hb4⟩;have B3:=Lib.hid (below_step B2.out hb4);clear hb4))
      | (go_at_call 63;go_must (refine (hfit2.out _).mono ?_;rintro e w5 ⟨rfl,hb5⟩;have B4:=Lib.hid (below_step B3.out hb5);clear hb5)))
    go_ret
    exact ⟨by rw [hE.out];rfl,B4.out⟩
end Go.Proofs.YtpfbcepgmigeiaaGreatDoor.Q
end
