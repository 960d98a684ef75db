/- PART 6 OF A PROOF: Lean functions, and that the program computes them; written by hand and by a program. Not trusted: Lean checks it. -/
import Derived.Test.YtjopbfidjapmbaaGreatDoorTa3
import Derived.Test.YtjopbfidjapmbaaGreatDoorTa4
import Derived.Test.YtjopbfidjapmbaaGreatDoorTa5
set_option linter.unusedVariables false
set_option linter.unusedSimpArgs false
section
namespace Go.Proofs.YtjopbfidjapmbaaGreatDoor.Q
open Go.RowKit Go.Proofs.YtjopbfidjapmbaaGreatDoorW.PrintWords Go.Proofs.YtjopbfidjapmbaaGreatDoorW.PrintLast Go.Proofs.YtjopbfidjapmbaaGreatDoorW.PrintMore
attribute [local go_sem] max2_int min2_int max_two min_two max_three min_three max_four min_four
set_option linter.unusedVariables false
set_option linter.unusedSimpArgs false
open Go.Proofs.YtjopbfidjapmbaaGreatDoorS
theorem fold_Class_eq (r : Int) : fold_Class.f 3 r = some (uclass r):=by
 by_cases h : 0 ≤ r ∧ r < 1200
 ·have hh : ∀ n : Nat,n < 1200 → fold_Class.f 3 (n : Int) = some (uclass n):=by decide +kernel
  have:=hh r.toNat (by omega)
  rwa [show ((r.toNat : Nat) : Int) = r from by omega] at this
 ·have hu : uclass r = 0:=by unfold uclass;repeat rw [if_neg (by omega)]
  rw [hu]
  by_cases h0 : r < 0
  ·simp [fold_Class.f,fold_Class.j0,fold_Class.j1,fold_in.f,show ¬ (48 ≤ r) by omega,show ¬ (9 ≤ r) by omega,show ¬ (768 ≤ r) by omega,show ¬ (65 ≤ r) by omega,show ¬ (97 ≤ r) by omega,show ¬ (192 ≤ r) by omega,show ¬ (913 ≤ r) by omega,show ¬ (945 ≤ r) by omega,show ¬ (1024 ≤ r) by omega,show ¬ (r = 32) by omega,show ¬ (r = 160) by omega,show ¬ (r = 215) by omega,show ¬ (r = 247) by omega,show ¬ (r = 930) by omega]
  ·have h1 : 1200 ≤ r:=by omega
   simp [fold_Class.f,fold_Class.j0,fold_Class.j1,fold_in.f,show (48 ≤ r) by omega,show (9 ≤ r) by omega,show (768 ≤ r) by omega,show (65 ≤ r) by omega,show (97 ≤ r) by omega,show (192 ≤ r) by omega,show (913 ≤ r) by omega,show (945 ≤ r) by omega,show (1024 ≤ r) by omega,show ¬ (r ≤ 57) by omega,show ¬ (r ≤ 13) by omega,show ¬ (r ≤ 879) by omega,show ¬ (r ≤ 90) by omega,show ¬ (r ≤ 122) by omega,show ¬ (r ≤ 383) by omega,show ¬ (r ≤ 937) by omega,show ¬ (r ≤ 969) by omega,show ¬ (r ≤ 1119) by omega,show ¬ (r = 32) by omega,show ¬ (r = 160) by omega,show ¬ (r = 215) by omega,show ¬ (r = 247) by omega,show ¬ (r = 930) by omega]
theorem fold_Upper_eq (r : Int) (h0 : -2147483648 ≤ r) (h1 : r ≤ 2147483647) : fold_Upper.f 4 r = some (uupper r):=by
 by_cases h : 0 ≤ r ∧ r < 1200
 ·have hh : ∀ n : Nat,n < 1200 → fold_Upper.f 4 (n : Int) = some (uupper n):=by decide +kernel
  have:=hh r.toNat (by omega)
  rwa [show ((r.toNat : Nat) : Int) = r from by omega] at this
 ·have hu : uupper r = r:=by unfold uupper;repeat rw [if_neg (by omega)]
  rw [hu]
  by_cases h2 : r < 0
  ·simp [fold_Upper.f,fold_Upper.j0,fold_Upper.j1,fold_Upper.j2,fold_in.f,show ¬ (97 ≤ r) by omega,show ¬ (224 ≤ r) by omega,show ¬ (945 ≤ r) by omega,show ¬ (1072 ≤ r) by omega,show ¬ (1104 ≤ r) by omega,show ¬ (256 ≤ r) by omega,show ¬ (330 ≤ r) by omega,show ¬ (313 ≤ r) by omega,show ¬ (377 ≤ r) by omega,show ¬ (r = 247) by omega,show ¬ (r = 305) by omega,show ¬ (r = 255) by omega,show ¬ (r = 962) by omega]
  ·have h3 : 1200 ≤ r:=by omega
   simp [fold_Upper.f,fold_Upper.j0,fold_Upper.j1,fold_Upper.j2,fold_in.f,show (97 ≤ r) by omega,show (224 ≤ r) by omega,show (945 ≤ r) by omega,show (1072 ≤ r) by omega,show (1104 ≤ r) by omega,show (256 ≤ r) by omega,show (330 ≤ r) by omega,show (313 ≤ r) by omega,show (377 ≤ r) by omega,show ¬ (r ≤ 122) by omega,show ¬ (r ≤ 254) by omega,show ¬ (r ≤ 969) by omega,show ¬ (r ≤ 1103) by omega,show ¬ (r ≤ 1119) by omega,show ¬ (r ≤ 311) by omega,show ¬ (r ≤ 375) by omega,show ¬ (r ≤ 328) by omega,show ¬ (r ≤ 382) by omega,show ¬ (r = 247) by omega,show ¬ (r = 305) by omega,show ¬ (r = 255) by omega,show ¬ (r = 962) by omega]
def fold_Fold.f (a0 : ByteArray) (a1 : Bool) : Option ByteArray:=if a0.size ≤ 1099511627776 then some (ufold a0 a1) else none
def ufacc (p : Bool) (pre : List URune) : List UInt8:=(pre.map fun x=>(x.1.2.1 : Int)).flatMap (upiece p)
theorem ufacc_snoc (p : Bool) (pre : List URune) (x : URune) : ufacc p (pre ++ [x]) = ufacc p pre ++ upiece p (x.1.2.1 : Int):=by simp [ufacc]
theorem ufacc_done (p : Bool) (s : ByteArray) (xs : List URune) (h : xs.map Subtype.val = uall s) : (⟨(ufacc p xs).toArray⟩ : ByteArray) = ufold s p:=by
 unfold ufacc ufold urunes
 rw [← h,List.map_map]
 rfl
theorem upiece_length (p : Bool) (r : Int) : (upiece p r).length ≤ 4:=by
 unfold upiece
 split
 ·split
  ·exact uplain_size _
  ·exact encode_size _
 ·simp
theorem ufacc_length (p : Bool) (pre : List URune) : (Lib.byteCells (ufacc p pre)).length ≤ 4 * pre.length:=by
 rw [Lib.byteCells_length]
 unfold ufacc
 induction pre with
 | nil=>simp
 | cons x l ih =>
  have:=upiece_length p (x.1.2.1 : Int)
  simp only [List.map_cons,List.flatMap_cons,List.length_append,List.length_cons]
  omega
theorem uupper_range (r : Int) (h0 : 0 ≤ r) (h1 : r ≤ 2147483647) : 0 ≤ uupper r ∧ uupper r ≤ 2147483647:=by
 unfold uupper
 repeat' split
 all_goals omega
attribute [local go_sem] Oper.semAt_some
set_option maxHeartbeats 4000000 in
set_option maxRecDepth 1000000 in
theorem fold_Fold.calls (a0 : ByteArray) (a1 : Bool) (r : ByteArray) (w : World) (h : fold_Fold.f a0 a1 = some r) :
  Calls Tryz.prog 65 #[.string a0,.bool a1] w fun e w'=>e = .returned (.string r) ∧ Below w.heap.size w w':=by
 obtain ⟨hs,rfl⟩:=guard_some h
 clear h
 refine (callsIn_wide (n:=9)).1 ?_
 refine callsIn_of_wp_marks Tryz.func65 rfl trivial ?_ rfl
 simp only [Tryz.ntmps65,List.size_toArray,List.length_cons,List.length_nil,Nat.reduceAdd,Nat.reduceSub,Array.replicate_succ,Array.replicate_zero,List.push_toArray,List.append_toArray,List.nil_append,List.cons_append]
 gi_wp2_with (refine ⟨trivial,?_⟩;gi_at_call 90;refine (callsIn_wide.2 (utf_All_call _ _)).mono ?_;rintro e w' ⟨rfl,rfl⟩)
 have hbx : Lib.IsBuilderF 64 5 (w.heap.size + 1) (w.heap.size + 1) (Lib.byteCells []) ((w.alloc (.cells #[.bool a1] 4)).alloc (.cells #[.pointer none,.slice none 0 0] 64)):=by
  have:=Lib.IsBuilderF.of (Lib.fresh_isBuilder 64 5 (w.alloc (.cells #[.bool a1] 4)))
  rw [World.size_alloc] at this
  exact this
 refine wpIn_rangeFunc_ownF rfl (by omega) (gf:=115) (lb:=#[.pointer (some ⟨w.heap.size + 2,0,none⟩)]) rfl trivial (enters_of Tryz.func115 (by kernel_rfl) rfl)
  (all1_stops Fence.wide _ trivial rfl (by omega) (w.heap.size + 2) a0 _ (by omega) (cell_new1 _ _ _ _ (by simp))) walksK_t walksK_b (Below.refl _ _) (fun _=>rfl)
  (fun pre W=>Lib.IsBuilderF 64 5 (w.heap.size + 1) (w.heap.size + 1) (Lib.byteCells (ufacc a1 pre)) W ∧ W.cell? ⟨w.heap.size,0,none⟩ = some (.bool a1) ∧ Below w.heap.size w W)
  (fun _ _ _=>False) ?hI (fun _ _ _ _ _ hs _ _=>hs) ?h0
  (fun x=>{ tmps:=#[.string a0,.bool a1,undef,.pointer (some ⟨w.heap.size,0,none⟩),.string ⟨#[]⟩,.pointer (some ⟨w.heap.size + 1,0,none⟩),undef,.int .i32 x.1.2.1,.string a0,.func (.func 115) #[] #[.pointer (some ⟨w.heap.size + 2,0,none⟩)],.int .i64 x.1.1,.int .i32 x.1.2.1,undef,undef,undef,undef,undef,undef,undef,undef,undef,undef,undef,undef,undef,undef],defers:=[] }) ?assign ?body ?done ?stop
 case hI=>exact OwnFrom.and (Own.from (I:=fun (pre : List URune) W=>Lib.IsBuilderF 64 5 (w.heap.size + 1) (w.heap.size + 1) (Lib.byteCells (ufacc a1 pre)) W) (fun s A B row hs hg hr=>bld_turn hs hg hr) _) (OwnFrom.and (Own.from (I:=fun (pre : List URune) W=>W.cell? ⟨w.heap.size,0,none⟩ = some (.bool a1)) (fun s A B row hs hg hr=>cell_kept hs hg hr) _) (ownFrom_below (Nat.le_refl _) (by simp;omega)))
 case h0=>exact ⟨hbx.alloc _,cell_old1 (cell_old1 (cell_new1 _ _ _ _ rfl) _) _,(((Below.refl _ w).alloc (Nat.le_refl _) _).alloc (by simp) _).alloc (by simp;omega) _⟩
 case assign =>
  intro l x W K hK
  simp only [uenc]
  gi_wp2
  exact hK
 case body =>
  rintro l pre x W ⟨hI,hc0,hB⟩ hlen
  have hd : 1 ≤ 9 - 1 - 1:=by omega
  obtain ⟨ru,hru⟩ : ∃ ru : Int,(x.1.2.1 : Int) = ru:=⟨_,rfl⟩
  have hr0 : 0 ≤ ru:=by omega
  have hr1 : ru ≤ 2147483647:=by have:=x.2;omega
  have hup:=uupper_range ru hr0 hr1
  have hacc : (Lib.byteCells (ufacc a1 pre)).length + 4 ≤ 140737488355328:=by
   have h1:=ufacc_length a1 pre
   omega
  have hsn : ufacc a1 (pre ++ [x]) = ufacc a1 pre ++ upiece a1 ru:=by rw [ufacc_snoc,hru]
  rw [hru]
  by_cases hcl : uclass ru = 1
  ·have hcb : (uclass ru != 1) = false:=by simp [hcl]
   cases a1 with
   | true =>
    have hp : upiece true ru = (uplain (uupper ru)).data.toList:=by simp [upiece,hcl]
    have hps:=uplain_size (uupper ru)
    replace hru:=Lib.hid hru
    replace hcl:=Lib.hid hcl
    replace hsn:=Lib.hid hsn
    replace hp:=Lib.hid hp
    gi_wp2_with (refine ⟨trivial,?_⟩;first | (gi_at_call 82;refine (CallsIn.inRound l (callsIn_wide.2 (fold_Class.calls 3 _ _ _ (fold_Class_eq _)))).mono ?_;rintro e w' ⟨rfl,hb1⟩;replace hb1:=hb1.below;have hI1:=bld_below hI hb1;have hc1:=pw_cell_below hb1 hc0) | (gi_at_call 83;refine (CallsIn.inRound l (callsIn_wide.2 (fold_Upper.calls 4 _ _ _ (fold_Upper_eq _ (by omega) (by omega))))).mono ?_;rintro e w2 ⟨rfl,hb2⟩;replace hb2:=hb2.below;have hI2:=bld_below hI1 hb2) | (gi_at_call 91;refine (CallsIn.inRound l (callsIn_wide.2 (fold_Plain.calls _ _ _ rfl))).mono ?_;rintro e w3 ⟨rfl,hb3⟩;have hI3:=bld_below hI2 hb3) | (gi_at_call 22;refine (CallsIn.inRound l (callsIn_wide.2 (bld_WriteString _ _ _ _ _ hI3 (by omega) (bld_size hI3)))).mono ?_;rintro e w4 ⟨rfl,hI4,hb4,hk4⟩))
    have hko : KeepsOthers W w4:=(((keeps_below hb1).trans (keeps_below hb2)).trans (keeps_below hb3)).trans (bld_keeps hI3 hk4 hb4.size)
    refine ⟨hko,hko.walks,?_,?_,?_⟩
    ·show Lib.IsBuilderF 64 5 (w.heap.size + 1) (w.heap.size + 1) (Lib.byteCells (ufacc true (pre ++ [x]))) w4
     rw [hsn.out,hp.out,Lib.byteCells_append,← Lib.strCells_eq]
     exact Or.inr hI4
    ·exact (hb4.cell (p:=⟨w.heap.size,0,none⟩) (Nat.lt_succ_self _)).trans (pw_cell_below hb3 (pw_cell_below hb2 hc1))
    ·exact (((hB.trans (hb1.mono hB.size)).trans (hb2.mono (by have:=hB.size;have:=hb1.size;omega))).trans (hb3.mono (by have:=hB.size;have:=hb1.size;have:=hb2.size;omega))).trans (hb4.mono (by omega))
   | false =>
    have hp : upiece false ru = (Utf8.encode (uupper ru)).data.toList:=by simp [upiece,hcl]
    replace hru:=Lib.hid hru
    replace hcl:=Lib.hid hcl
    replace hsn:=Lib.hid hsn
    replace hp:=Lib.hid hp
    gi_wp2_with (refine ⟨trivial,?_⟩;first | (gi_at_call 82;refine (CallsIn.inRound l (callsIn_wide.2 (fold_Class.calls 3 _ _ _ (fold_Class_eq _)))).mono ?_;rintro e w' ⟨rfl,hb1⟩;replace hb1:=hb1.below;have hI1:=bld_below hI hb1;have hc1:=pw_cell_below hb1 hc0) | (gi_at_call 83;refine (CallsIn.inRound l (callsIn_wide.2 (fold_Upper.calls 4 _ _ _ (fold_Upper_eq _ (by omega) (by omega))))).mono ?_;rintro e w2 ⟨rfl,hb2⟩;replace hb2:=hb2.below;have hI2:=bld_below hI1 hb2) | (gi_at_call 92;refine (CallsIn.inRound l (callsIn_wide.2 (bld_WriteRune _ _ _ _ (by omega) (by omega) _ hI2 (by omega) (bld_size hI2)))).mono ?_;rintro e w4 ⟨rfl,hI4,hb4,hk4⟩))
    have hko : KeepsOthers W w4:=((keeps_below hb1).trans (keeps_below hb2)).trans (bld_keeps hI2 hk4 hb4.size)
    refine ⟨hko,hko.walks,?_,?_,?_⟩
    ·show Lib.IsBuilderF 64 5 (w.heap.size + 1) (w.heap.size + 1) (Lib.byteCells (ufacc false (pre ++ [x]))) w4
     rw [hsn.out,hp.out,Lib.byteCells_append,← runeCells_encode]
     exact Or.inr hI4
    ·exact (hb4.cell (p:=⟨w.heap.size,0,none⟩) (Nat.lt_succ_self _)).trans (pw_cell_below hb2 hc1)
    ·exact ((hB.trans (hb1.mono hB.size)).trans (hb2.mono (by have:=hB.size;have:=hb1.size;omega))).trans (hb4.mono (by omega))
  ·have hcb : (uclass ru != 1) = true:=by simp [hcl]
   have hp : upiece a1 ru = []:=by simp [upiece,hcl]
   replace hru:=Lib.hid hru
   clear hcl
   replace hsn:=Lib.hid hsn
   replace hp:=Lib.hid hp
   gi_wp2_with (refine ⟨trivial,?_⟩;(gi_at_call 82;refine (CallsIn.inRound l (callsIn_wide.2 (fold_Class.calls 3 _ _ _ (fold_Class_eq _)))).mono ?_;rintro e w' ⟨rfl,hb1⟩;replace hb1:=hb1.below;have hI1:=bld_below hI hb1;have hc1:=pw_cell_below hb1 hc0))
   have hko : KeepsOthers W w':=keeps_below hb1
   refine ⟨hko,hko.walks,?_,hc1,hB.trans (hb1.mono hB.size)⟩
   show Lib.IsBuilderF 64 5 (w.heap.size + 1) (w.heap.size + 1) (Lib.byteCells (ufacc a1 (pre ++ [x]))) w'
   rw [hsn.out,hp.out,List.append_nil]
   exact hI1
 case done =>
  rintro D xs W hD hS ⟨hI,hc0,hB⟩ hK
  gi_wp2_with (refine ⟨trivial,?_⟩;gi_at_call 23;refine (callsIn_wide.2 (Tryz.Builder_String_any_k _ _ _ _ hI (bld_size hI))).mono ?_;rintro e w2 ⟨rfl,hI2,hb2,hk2⟩)
  have hne : D ≠ w.heap.size + 1:=by simp at hD;omega
  have hK2 : w2.heap[D]? = some (.deferred (some [])):=hk2 D _ hK (fun e=>hne (Option.some.inj e)) (fun c fz e=>by cases e)
  refine ⟨by simp,.inl ⟨_,_,rfl,run_takeDeferred hK2,?_⟩⟩
  exact ⟨_,results_tmp rfl _ _ _,by simpa using ufacc_done a1 a0 xs hS,(hB.trans (hb2.mono (by omega))).trans (belowK_b (w:=w) (Nat.le_refl _) w2 D _ _ (by simp at hD;omega) hK2 rfl rfl)⟩
 case stop =>
  rintro D c pre W hD _ h _
  exact h.elim
end Go.Proofs.YtjopbfidjapmbaaGreatDoor.Q
end
section
namespace Go.Proofs.YtjopbfidjapmbaaGreatDoor.Q
open Go.RowKit Go.Proofs.YtjopbfidjapmbaaGreatDoorW.PrintWords Go.Proofs.YtjopbfidjapmbaaGreatDoorW.PrintLast Go.Proofs.YtjopbfidjapmbaaGreatDoorW.PrintMore
attribute [local go_sem] max2_int min2_int max_two min_two max_three min_three max_four min_four
set_option linter.unusedVariables false
set_option linter.unusedSimpArgs false
open Go.Proofs.YtjopbfidjapmbaaGreatDoorS
def page_letter.f (a0 : ByteArray) : Option Bool:=if a0.size ≤ 1099511627776 then some (uletter a0) else none
set_option maxHeartbeats 4000000 in
set_option maxRecDepth 1000000 in
theorem page_letter.calls (a0 : ByteArray) (r : Bool) (w : World) (h : page_letter.f a0 = some r) :
  Calls Tryz.prog 60 #[.string a0] w fun e w'=>e = .returned (.bool r) ∧ Below w.heap.size w w':=by
 obtain ⟨hs,rfl⟩:=guard_some h
 clear h
 have hcl:=ucount_le a0
 go_enter Tryz.func60,Tryz.ntmps60
 go_wp2
 go_loopw [3] (fun n wr=>∃ (pos f c : Nat),n = .int .i64 c ∧ wr.heap[w.heap.size]? = some (.stringIter a0 pos) ∧ Below w.heap.size w wr ∧ c + (ulist a0 f pos).length = ucount a0 ∧ uletter a0 = (((ulist a0 f pos).all fun t=>ugood t.2.1) && decide (1 ≤ ucount a0 ∧ ucount a0 ≤ 3)) ∧ a0.size ≤ pos + f) (fun _ wr=>a0.size - wr.iterPos w.heap.size)
 case atStart=>exact ⟨0,a0.size,0,rfl,World.iter_heap w a0 0,(Below.refl _ w).alloc (Nat.le_refl _) _,by simp [ucount,uall],by simp [uletter,urunes,uall,List.all_map,Function.comp_def],by omega⟩
 case round =>
  obtain ⟨pos,f,c,rfl,hit,hbw,hc,hl,hf⟩:=hrel
  by_cases hp : pos < a0.size
  ·have hnx : ∀ ty,(Instr.next (.pointer (some ⟨w.heap.size,0,none⟩)) true ty).run Tryz.prog wr = _:=fun ty=>Lib.run_next_any_at wr w.heap.size a0 pos ty hit hp
   have hwd:=width_pos a0 pos hp
   have hd1:=decode_le a0 pos
   have hit2:=Lib.iterAt_heap wr (w.heap.size) a0 pos (pos + (Utf8.decode a0 pos).2) hit
   have hbw2:=Lib.below_iterAt hbw (k:=w.heap.size) (by omega) a0 (pos + (Utf8.decode a0 pos).2)
   obtain ⟨f,rfl⟩ : ∃ f',f = f' + 1:=⟨f - 1,by omega⟩
   rw [ulist_step a0 f pos hp,List.length_cons] at hc
   rw [ulist_step a0 f pos hp,List.all_cons] at hl
   have hc2 : c + 1 ≤ ucount a0:=by omega
   replace hc:=Lib.hid hc
   by_cases h1 : uclass ((Utf8.decode a0 pos).1 : Int) = 1
   ·have h1b : (uclass ((Utf8.decode a0 pos).1 : Int) != 1) = false:=by simp [h1]
    by_cases h2 : uupper ((Utf8.decode a0 pos).1 : Int) = ((Utf8.decode a0 pos).1 : Int)
    ·have h2b : (uupper ((Utf8.decode a0 pos).1 : Int) != ((Utf8.decode a0 pos).1 : Int)) = false:=by simp [h2]
     have hl2 : uletter a0 = (((ulist a0 f (pos + (Utf8.decode a0 pos).2)).all fun t=>ugood t.2.1) && decide (1 ≤ ucount a0 ∧ ucount a0 ≤ 3)):=by rw [hl];simp [ugood,h1,h2]
     replace hl2:=Lib.hid hl2
     clear hl h1 h2
     go_wp2_with (first | (go_at_call 82;refine (fold_Class.calls 3 _ _ _ (fold_Class_eq _)).mono ?_;rintro e w3 ⟨rfl,hb3⟩;replace hb3:=hb3.below) | (go_at_call 83;refine (fold_Upper.calls 4 _ _ _ (fold_Upper_eq _ (by omega) (by omega))).mono ?_;rintro e w4 ⟨rfl,hb4⟩;replace hb4:=hb4.below))
     have hit4 : w4.heap[w.heap.size]? = some (.stringIter a0 (pos + (Utf8.decode a0 pos).2)):=(hb4.block _ (Nat.lt_of_lt_of_le (Array.getElem?_eq_some_iff.1 hit2).1 hb3.size)).trans ((hb3.block _ (Array.getElem?_eq_some_iff.1 hit2).1).trans hit2)
     go_roundw
     case rel=>exact ⟨pos + (Utf8.decode a0 pos).2,f,c + 1,by go_num,hit4,(hbw2.trans (hb3.mono hbw2.size)).trans (hb4.mono (Nat.le_trans hbw2.size hb3.size)),by have:=hc.out;omega,hl2.out,by omega⟩
     case measure=>simp only [World.iterPos,hit4,hit];omega
    ·have h2b : (uupper ((Utf8.decode a0 pos).1 : Int) != ((Utf8.decode a0 pos).1 : Int)) = true:=by simp [h2]
     have hl2 : uletter a0 = false:=by rw [hl];simp [ugood,h2]
     replace hl2:=Lib.hid hl2
     clear hl h1 h2
     go_wp2_with (first | (go_at_call 82;refine (fold_Class.calls 3 _ _ _ (fold_Class_eq _)).mono ?_;rintro e w3 ⟨rfl,hb3⟩;replace hb3:=hb3.below) | (go_at_call 83;refine (fold_Upper.calls 4 _ _ _ (fold_Upper_eq _ (by omega) (by omega))).mono ?_;rintro e w4 ⟨rfl,hb4⟩;replace hb4:=hb4.below))
     go_ret
     rw [hl2.out]
     exact ⟨rfl,(hbw2.trans (hb3.mono hbw2.size)).trans (hb4.mono (Nat.le_trans hbw2.size hb3.size))⟩
   ·have h1b : (uclass ((Utf8.decode a0 pos).1 : Int) != 1) = true:=by simp [h1]
    have hl2 : uletter a0 = false:=by rw [hl];simp [ugood,h1]
    replace hl2:=Lib.hid hl2
    clear hl h1
    go_wp2_with (first | (go_at_call 82;refine (fold_Class.calls 3 _ _ _ (fold_Class_eq _)).mono ?_;rintro e w3 ⟨rfl,hb3⟩;replace hb3:=hb3.below))
    go_ret
    rw [hl2.out]
    exact ⟨rfl,hbw2.trans (hb3.mono hbw2.size)⟩
  ·have hnx : ∀ ty,(Instr.next (.pointer (some ⟨w.heap.size,0,none⟩)) true ty).run Tryz.prog wr = _:=fun ty=>Lib.run_next_end_at wr (w.heap.size) a0 pos ty hit hp
   rw [ulist_end a0 f pos hp] at hc hl
   have hc : c = ucount a0:=hc
   subst hc
   have hl2 : uletter a0 = (decide (0 < (ucount a0 : Int)) && decide ((ucount a0 : Int) ≤ 3)):=by
    rw [hl,List.all_nil,Bool.true_and,Bool.eq_iff_iff]
    simp only [decide_eq_true_eq,Bool.and_eq_true]
    omega
   replace hl2:=Lib.hid hl2
   clear hl
   by_cases h0 : 0 < ucount a0
   ·go_wp2
    all_goals go_ret
    all_goals rw [hl2.out]
    all_goals exact ⟨by simp [h0],hbw⟩
   ·go_wp2
    all_goals go_ret
    all_goals rw [hl2.out]
    all_goals exact ⟨by simp [h0],hbw⟩
end Go.Proofs.YtjopbfidjapmbaaGreatDoor.Q
end
section
namespace Go.Proofs.YtjopbfidjapmbaaGreatDoor.Q
open Go.RowKit Go.Proofs.YtjopbfidjapmbaaGreatDoorW.PrintWords Go.Proofs.YtjopbfidjapmbaaGreatDoorW.PrintLast Go.Proofs.YtjopbfidjapmbaaGreatDoorW.PrintMore
attribute [local go_sem] max2_int min2_int max_two min_two max_three min_three max_four min_four
set_option linter.unusedVariables false
set_option linter.unusedSimpArgs false
def grid_open.f (a0_0 : Int) (a0_1 : Int) (l0_2 : List Bool) (l0_3 : List Bool) (l0_4 : List Bool) (a1 : Int) : Option (Bool):=if a1 ≥ 0 then (if a1 < (l0_2.length : Int) then (if 0 ≤ a1 then (some (!(rdOf false l0_2 a1))) else (none)) else (some false)) else (some false)
set_option maxHeartbeats 8000000 in
set_option maxRecDepth 100000 in
theorem grid_open.calls (a0_0 : Int) (a0_1 : Int) (A0_2 : Option Addr) (c0_2 : Nat) (l0_2 : List Bool) (A0_3 : Option Addr) (c0_3 : Nat) (l0_3 : List Bool) (A0_4 : Option Addr) (c0_4 : Nat) (l0_4 : List Bool) (a1 : Int) (r : Bool) (w : World) (hr0_2 : Kd.C Kd.bool w A0_2 l0_2.length l0_2) (hc0_2 : l0_2.length ≤ c0_2) (hr0_3 : Kd.C Kd.bool w A0_3 l0_3.length l0_3) (hc0_3 : l0_3.length ≤ c0_3) (hr0_4 : Kd.C Kd.bool w A0_4 l0_4.length l0_4) (hc0_4 : l0_4.length ≤ c0_4) (h : grid_open.f a0_0 a0_1 l0_2 l0_3 l0_4 a1 = some r) :
  Calls Tryz.prog 94 #[.agg #[.int .i64 a0_0,.int .i64 a0_1,.slice A0_2 l0_2.length c0_2,.slice A0_3 l0_3.length c0_3,.slice A0_4 l0_4.length c0_4],.int .i64 a1] w fun e w'=>e = .returned (.bool r) ∧ Below w.heap.size w w':=by
 have hu39:=Tryz.underlying39
 have HR0_2:=Aside0.mk hr0_2
 have HC0_2:=Aside0.mk hc0_2
 clear hr0_2 hc0_2
 have HR0_3:=Aside0.mk hr0_3
 have HC0_3:=Aside0.mk hc0_3
 clear hr0_3 hc0_3
 have HR0_4:=Aside0.mk hr0_4
 have HC0_4:=Aside0.mk hc0_4
 clear hr0_4 hc0_4
 have HB:=Aside0.mk (Below.refl w.heap.size w)
 have H : (if a1 ≥ 0 then (if a1 < (l0_2.length : Int) then (if 0 ≤ a1 then (some (!(rdOf false l0_2 a1))) else (none)) else (some false)) else (some false)) = some r:=h
 clear h
 by_cases c3 : a1 ≥ 0
 ·rw [if_pos c3] at H
  have c3b0 : decide (0 ≤ a1) = true:=decide_eq_true c3
  clear c3
  by_cases c4 : a1 < (l0_2.length : Int)
  ·rw [if_pos c4] at H
   have c4b0 : decide (a1 < (l0_2.length : Int)) = true:=decide_eq_true c4
   clear c4
   by_cases c5 : 0 ≤ a1
   ·rw [if_pos c5] at H
    have c5b0 : decide (0 ≤ a1) = true:=decide_eq_true c5
    clear c5
    obtain rfl:=Option.some.inj H
    go_enter Tryz.func94,Tryz.ntmps94
    go_wp2_with (first | ((with_reducible refine gate_dst (N:=2) rfl ?_);(try (refine gate_guard (by rfl) ?_;dsimp only));refine box_event ?hg (N:=2) ?hd (cs:=#[.int .i64 a0_0,.int .i64 a0_1,.slice A0_2 l0_2.length c0_2,.slice A0_3 l0_3.length c0_3,.slice A0_4 l0_4.length c0_4]) (t:=39) ?hr ?_;(case hd=>rfl);(case hg=>rfl);(case hr=>first | (go_simp;done) | (go_simp;rfl));intro gb129 hg w6 hbox hb;have n0_:=Aside0.mk (below_step (by repeat (first | (with_reducible first | exact HB.out | apply below_alloc | apply pw_below_drewN | apply below_drew1) | exact HB.out)) hb);have n1_:=Aside0.mk (hbox);have n2_:=Aside0.mk ((by rw [hg];exact (below_size (by repeat (first | (with_reducible first | exact HB.out | apply below_alloc | apply pw_below_drewN | apply below_drew1) | exact HB.out))) : w.heap.size ≤ gb129));have n3_:=Aside0.mk ((by rw [hg];exact (below_size (by repeat (first | (with_reducible first | exact HB.out | apply below_alloc | apply pw_below_drewN | apply below_drew1) | exact HB.out))) : w.heap.size ≤ gb129));clear HB;have HB:=n0_;have BK129:=n1_;have GW129:=n2_;have GE129:=n3_;clear n0_ n1_ n2_ n3_;clear hb hbox hg;have hcz7_0 : w6.cell? ⟨gb129,0,none⟩ = some (.int .i64 a0_0):=(blk_cell BK129.out 0).trans rfl;have hcz7_1 : w6.cell? ⟨gb129,1,none⟩ = some (.int .i64 a0_1):=(blk_cell BK129.out 1).trans rfl;have hcz7_2 : w6.cell? ⟨gb129,2,none⟩ = some (.slice A0_2 l0_2.length c0_2):=(blk_cell BK129.out 2).trans rfl;have hcz7_3 : w6.cell? ⟨gb129,3,none⟩ = some (.slice A0_3 l0_3.length c0_3):=(blk_cell BK129.out 3).trans rfl;have hcz7_4 : w6.cell? ⟨gb129,4,none⟩ = some (.slice A0_4 l0_4.length c0_4):=(blk_cell BK129.out 4).trans rfl;have hfz7_0:=blk_frozen BK129.out 0;have hfz7_1:=blk_frozen BK129.out 1;have hfz7_2:=blk_frozen BK129.out 2;have hfz7_3:=blk_frozen BK129.out 3;have hfz7_4:=blk_frozen BK129.out 4;have p130 : 0 ≤ (a1 : Int):=of_decide_eq_true (by first | (with_reducible assumption) | assumption);have q130 : a1 < (l0_2.length : Int):=of_decide_eq_true (by first | (with_reducible assumption) | assumption);obtain ⟨ad130,e130,hx130_0⟩:=Kd.at_bool HR0_2.out a1 p130 q130;cases e130;replace hx130_0:=(HB.out.cell (World.block_lt_of_cell? w _ hx130_0)).trans hx130_0;replace p130:=eq_true p130;replace q130:=eq_true q130))
    go_ret
    exact ⟨by first | rfl | (simp [errW_none,errW_some] <;> rfl) | (simp [*,errW_none,errW_some] <;> rfl) | (exfalso;contradiction),by repeat (first | (with_reducible first | exact HB.out | apply below_alloc | apply pw_below_drewN | apply below_drew1 | refine below_set ?_ GE129.out) | exact HB.out)⟩
   ·rw [if_neg c5] at H
    exact absurd H (by simp)
  ·rw [if_neg c4] at H
   have c4b0 : decide (a1 < (l0_2.length : Int)) = false:=decide_eq_false c4
   clear c4
   obtain rfl:=Option.some.inj H
   go_enter Tryz.func94,Tryz.ntmps94
   go_wp2_with (first | ((with_reducible refine gate_dst (N:=2) rfl ?_);(try (refine gate_guard (by rfl) ?_;dsimp only));refine box_event ?hg (N:=2) ?hd (cs:=#[.int .i64 a0_0,.int .i64 a0_1,.slice A0_2 l0_2.length c0_2,.slice A0_3 l0_3.length c0_3,.slice A0_4 l0_4.length c0_4]) (t:=39) ?hr ?_;(case hd=>rfl);(case hg=>rfl);(case hr=>first | (go_simp;done) | (go_simp;rfl));intro gb129 hg w8 hbox hb;have n0_:=Aside0.mk (below_step (by repeat (first | (with_reducible first | exact HB.out | apply below_alloc | apply pw_below_drewN | apply below_drew1) | exact HB.out)) hb);have n1_:=Aside0.mk (hbox);have n2_:=Aside0.mk ((by rw [hg];exact (below_size (by repeat (first | (with_reducible first | exact HB.out | apply below_alloc | apply pw_below_drewN | apply below_drew1) | exact HB.out))) : w.heap.size ≤ gb129));have n3_:=Aside0.mk ((by rw [hg];exact (below_size (by repeat (first | (with_reducible first | exact HB.out | apply below_alloc | apply pw_below_drewN | apply below_drew1) | exact HB.out))) : w.heap.size ≤ gb129));clear HB;have HB:=n0_;have BK129:=n1_;have GW129:=n2_;have GE129:=n3_;clear n0_ n1_ n2_ n3_;clear hb hbox hg;have hcz9_0 : w8.cell? ⟨gb129,0,none⟩ = some (.int .i64 a0_0):=(blk_cell BK129.out 0).trans rfl;have hcz9_1 : w8.cell? ⟨gb129,1,none⟩ = some (.int .i64 a0_1):=(blk_cell BK129.out 1).trans rfl;have hcz9_2 : w8.cell? ⟨gb129,2,none⟩ = some (.slice A0_2 l0_2.length c0_2):=(blk_cell BK129.out 2).trans rfl;have hcz9_3 : w8.cell? ⟨gb129,3,none⟩ = some (.slice A0_3 l0_3.length c0_3):=(blk_cell BK129.out 3).trans rfl;have hcz9_4 : w8.cell? ⟨gb129,4,none⟩ = some (.slice A0_4 l0_4.length c0_4):=(blk_cell BK129.out 4).trans rfl;have hfz9_0:=blk_frozen BK129.out 0;have hfz9_1:=blk_frozen BK129.out 1;have hfz9_2:=blk_frozen BK129.out 2;have hfz9_3:=blk_frozen BK129.out 3;have hfz9_4:=blk_frozen BK129.out 4))
   go_ret
   exact ⟨by first | rfl | (simp [errW_none,errW_some] <;> rfl) | (simp [*,errW_none,errW_some] <;> rfl) | (exfalso;contradiction),by repeat (first | (with_reducible first | exact HB.out | apply below_alloc | apply pw_below_drewN | apply below_drew1 | refine below_set ?_ GE129.out) | exact HB.out)⟩
 ·rw [if_neg c3] at H
  have c3b0 : decide (0 ≤ a1) = false:=decide_eq_false c3
  clear c3
  obtain rfl:=Option.some.inj H
  go_enter Tryz.func94,Tryz.ntmps94
  go_wp2_with (first | ((with_reducible refine gate_dst (N:=2) rfl ?_);(try (refine gate_guard (by rfl) ?_;dsimp only));refine box_event ?hg (N:=2) ?hd (cs:=#[.int .i64 a0_0,.int .i64 a0_1,.slice A0_2 l0_2.length c0_2,.slice A0_3 l0_3.length c0_3,.slice A0_4 l0_4.length c0_4]) (t:=39) ?hr ?_;(case hd=>rfl);(case hg=>rfl);(case hr=>first | (go_simp;done) | (go_simp;rfl));intro gb129 hg w10 hbox hb;have n0_:=Aside0.mk (below_step (by repeat (first | (with_reducible first | exact HB.out | apply below_alloc | apply pw_below_drewN | apply below_drew1) | exact HB.out)) hb);have n1_:=Aside0.mk (hbox);have n2_:=Aside0.mk ((by rw [hg];exact (below_size (by repeat (first | (with_reducible first | exact HB.out | apply below_alloc | apply pw_below_drewN | apply below_drew1) | exact HB.out))) : w.heap.size ≤ gb129));have n3_:=Aside0.mk ((by rw [hg];exact (below_size (by repeat (first | (with_reducible first | exact HB.out | apply below_alloc | apply pw_below_drewN | apply below_drew1) | exact HB.out))) : w.heap.size ≤ gb129));clear HB;have HB:=n0_;have BK129:=n1_;have GW129:=n2_;have GE129:=n3_;clear n0_ n1_ n2_ n3_;clear hb hbox hg))
  go_ret
  exact ⟨by first | rfl | (simp [errW_none,errW_some] <;> rfl) | (simp [*,errW_none,errW_some] <;> rfl) | (exfalso;contradiction),by repeat (first | (with_reducible first | exact HB.out | apply below_alloc | apply pw_below_drewN | apply below_drew1 | refine below_set ?_ GE129.out) | exact HB.out)⟩
def grid_Open.f (k : Nat) (a0_0 : Int) (a0_1 : Int) (l0_2 : List Bool) (l0_3 : List Bool) (l0_4 : List Bool) (a1 : Int) : Option (Bool):=(grid_Check.f k a0_0 a0_1 l0_2 l0_3 l0_4).bind fun t132=>(if t132 = 0 then ((grid_open.f a0_0 a0_1 l0_2 l0_3 l0_4 a1).bind fun t133=>(some t133)) else (some false))
set_option maxHeartbeats 8000000 in
set_option maxRecDepth 100000 in
theorem grid_Open.calls (k : Nat) (a0_0 : Int) (a0_1 : Int) (A0_2 : Option Addr) (c0_2 : Nat) (l0_2 : List Bool) (A0_3 : Option Addr) (c0_3 : Nat) (l0_3 : List Bool) (A0_4 : Option Addr) (c0_4 : Nat) (l0_4 : List Bool) (a1 : Int) (r : Bool) (w : World) (hr0_2 : Kd.C Kd.bool w A0_2 l0_2.length l0_2) (hc0_2 : l0_2.length ≤ c0_2) (hr0_3 : Kd.C Kd.bool w A0_3 l0_3.length l0_3) (hc0_3 : l0_3.length ≤ c0_3) (hr0_4 : Kd.C Kd.bool w A0_4 l0_4.length l0_4) (hc0_4 : l0_4.length ≤ c0_4) (h : grid_Open.f k a0_0 a0_1 l0_2 l0_3 l0_4 a1 = some r) :
  Calls Tryz.prog 69 #[.agg #[.int .i64 a0_0,.int .i64 a0_1,.slice A0_2 l0_2.length c0_2,.slice A0_3 l0_3.length c0_3,.slice A0_4 l0_4.length c0_4],.int .i64 a1] w fun e w'=>e = .returned (.bool r) ∧ Below w.heap.size w w':=by
 have hu39:=Tryz.underlying39
 have HR0_2:=Aside0.mk hr0_2
 have HC0_2:=Aside0.mk hc0_2
 clear hr0_2 hc0_2
 have HR0_3:=Aside0.mk hr0_3
 have HC0_3:=Aside0.mk hc0_3
 clear hr0_3 hc0_3
 have HR0_4:=Aside0.mk hr0_4
 have HC0_4:=Aside0.mk hc0_4
 clear hr0_4 hc0_4
 have HB:=Aside0.mk (Below.refl w.heap.size w)
 have H : ((grid_Check.f k a0_0 a0_1 l0_2 l0_3 l0_4).bind fun t132=>(if t132 = 0 then ((grid_open.f a0_0 a0_1 l0_2 l0_3 l0_4 a1).bind fun t133=>(some t133)) else (some false))) = some r:=h
 clear h
 replace H:=Option.bind_eq_some_iff.mp H
 obtain ⟨t132,A30,H⟩:=H
 replace H : (if t132 = 0 then ((grid_open.f a0_0 a0_1 l0_2 l0_3 l0_4 a1).bind fun t133=>(some t133)) else (some false)) = some r:=H
 have A3:=Aside0.mk A30
 clear A30
 by_cases c4 : t132 = 0
 ·rw [if_pos c4] at H
  have c4b0 : (t132 == 0) = true:=beq_iff_eq.mpr c4
  have c4b1 : (t132 != 0) = false:=bne_eq_false_iff_eq.mpr c4
  clear c4
  replace H:=Option.bind_eq_some_iff.mp H
  obtain ⟨t133,A50,H⟩:=H
  replace H : (some t133) = some r:=H
  have A5:=Aside0.mk A50
  clear A50
  obtain rfl:=Option.some.inj H
  go_enter Tryz.func69,Tryz.ntmps69
  go_wp2_with (first | ((with_reducible refine gate_dst (N:=2) rfl ?_);refine box_event ?hg (N:=2) ?hd (cs:=#[.int .i64 a0_0,.int .i64 a0_1,.slice A0_2 l0_2.length c0_2,.slice A0_3 l0_3.length c0_3,.slice A0_4 l0_4.length c0_4]) (t:=39) ?hr ?_;(case hd=>rfl);(case hg=>rfl);(case hr=>first | (go_simp;done) | (go_simp;rfl));intro gb131 hg w6 hbox hb;have n0_:=Aside0.mk (below_step (by repeat (first | (with_reducible first | exact HB.out | apply below_alloc | apply pw_below_drewN | apply below_drew1) | exact HB.out)) hb);have n1_:=Aside0.mk (hbox);have n2_:=Aside0.mk ((by rw [hg];exact (below_size (by repeat (first | (with_reducible first | exact HB.out | apply below_alloc | apply pw_below_drewN | apply below_drew1) | exact HB.out))) : w.heap.size ≤ gb131));have n3_:=Aside0.mk ((by rw [hg];exact (below_size (by repeat (first | (with_reducible first | exact HB.out | apply below_alloc | apply pw_below_drewN | apply below_drew1) | exact HB.out))) : w.heap.size ≤ gb131));clear HB;have HB:=n0_;have BK131:=n1_;have GW131:=n2_;have GE131:=n3_;clear n0_ n1_ n2_ n3_;clear hb hbox hg;have hcz7_0 : w6.cell? ⟨gb131,0,none⟩ = some (.int .i64 a0_0):=(blk_cell BK131.out 0).trans rfl;have hcz7_1 : w6.cell? ⟨gb131,1,none⟩ = some (.int .i64 a0_1):=(blk_cell BK131.out 1).trans rfl;have hcz7_2 : w6.cell? ⟨gb131,2,none⟩ = some (.slice A0_2 l0_2.length c0_2):=(blk_cell BK131.out 2).trans rfl;have hcz7_3 : w6.cell? ⟨gb131,3,none⟩ = some (.slice A0_3 l0_3.length c0_3):=(blk_cell BK131.out 3).trans rfl;have hcz7_4 : w6.cell? ⟨gb131,4,none⟩ = some (.slice A0_4 l0_4.length c0_4):=(blk_cell BK131.out 4).trans rfl;have hfz7_0:=blk_frozen BK131.out 0;have hfz7_1:=blk_frozen BK131.out 1;have hfz7_2:=blk_frozen BK131.out 2;have hfz7_3:=blk_frozen BK131.out 3;have hfz7_4:=blk_frozen BK131.out 4) | ((with_reducible refine gate_callee (f:=59) rfl ?_);refine goesL_ (some 6) rfl rfl Tryz.func59 (by kernel_rfl) rfl #[.agg #[.int .i64 a0_0,.int .i64 a0_1,.slice A0_2 l0_2.length c0_2,.slice A0_3 l0_3.length c0_3,.slice A0_4 l0_4.length c0_4]] rfl (by (try simp only [List.map_toArray,List.map_cons,List.map_nil]);first | done | rfl | (simp only [List.length_drop,List.length_take];rfl)) ?_;(with_reducible refine (grid_Check.calls k a0_0 a0_1 _ _ l0_2 _ _ l0_3 _ _ l0_4 t132 _ ?side1 ?side2 ?side3 ?side4 ?side5 ?side6 A3.out).mono ?_);(case side1=>repeat (first | exact (Kd.C_below HR0_2.out HB.out) | (with_reducible refine Kd.C_alloc ?_ _) | (with_reducible refine Kd.C_drewN ?_ _) | (with_reducible refine Kd.C_drew ?_)));(case side2=>exact HC0_2.out);(case side3=>repeat (first | exact (Kd.C_below HR0_3.out HB.out) | (with_reducible refine Kd.C_alloc ?_ _) | (with_reducible refine Kd.C_drewN ?_ _) | (with_reducible refine Kd.C_drew ?_)));(case side4=>exact HC0_3.out);(case side5=>repeat (first | exact (Kd.C_below HR0_4.out HB.out) | (with_reducible refine Kd.C_alloc ?_ _) | (with_reducible refine Kd.C_drewN ?_ _) | (with_reducible refine Kd.C_drew ?_)));(case side6=>exact HC0_4.out);rintro e w8 ⟨rfl,hb⟩;refine ⟨_,rfl,?_⟩;have n0_:=Aside0.mk (blk_below (g:=gb131) (o:=.cells #[.int .i64 a0_0,.int .i64 a0_1,.slice A0_2 l0_2.length c0_2,.slice A0_3 l0_3.length c0_3,.slice A0_4 l0_4.length c0_4] 39 (0,0)) (by (with_reducible repeat (first | refine blk_drewN ?_ _ | refine blk_drew ?_ | refine blk_alloc ?_ _));exact BK131.out) hb);have n1_:=Aside0.mk (below_step (by repeat (first | (with_reducible first | exact HB.out | apply below_alloc | apply pw_below_drewN | apply below_drew1 | refine below_set ?_ GE131.out) | exact HB.out)) hb);clear BK131;clear HB;have BK131:=n0_;have HB:=n1_;clear n0_ n1_;(try clear hb);(try clear hb2);(try clear hk);(try clear hi);have hcz9_0 : w8.cell? ⟨gb131,0,none⟩ = some (.int .i64 a0_0):=(blk_cell BK131.out 0).trans rfl;have hcz9_1 : w8.cell? ⟨gb131,1,none⟩ = some (.int .i64 a0_1):=(blk_cell BK131.out 1).trans rfl;have hcz9_2 : w8.cell? ⟨gb131,2,none⟩ = some (.slice A0_2 l0_2.length c0_2):=(blk_cell BK131.out 2).trans rfl;have hcz9_3 : w8.cell? ⟨gb131,3,none⟩ = some (.slice A0_3 l0_3.length c0_3):=(blk_cell BK131.out 3).trans rfl;have hcz9_4 : w8.cell? ⟨gb131,4,none⟩ = some (.slice A0_4 l0_4.length c0_4):=(blk_cell BK131.out 4).trans rfl;have hfz9_0:=blk_frozen BK131.out 0;have hfz9_1:=blk_frozen BK131.out 1;have hfz9_2:=blk_frozen BK131.out 2;have hfz9_3:=blk_frozen BK131.out 3;have hfz9_4:=blk_frozen BK131.out 4) | (go_at_call 94;(with_reducible refine (grid_open.calls a0_0 a0_1 _ _ l0_2 _ _ l0_3 _ _ l0_4 a1 t133 _ ?side1 ?side2 ?side3 ?side4 ?side5 ?side6 A5.out).mono ?_);(case side1=>repeat (first | exact (Kd.C_below HR0_2.out HB.out) | (with_reducible refine Kd.C_alloc ?_ _) | (with_reducible refine Kd.C_drewN ?_ _) | (with_reducible refine Kd.C_drew ?_)));(case side2=>exact HC0_2.out);(case side3=>repeat (first | exact (Kd.C_below HR0_3.out HB.out) | (with_reducible refine Kd.C_alloc ?_ _) | (with_reducible refine Kd.C_drewN ?_ _) | (with_reducible refine Kd.C_drew ?_)));(case side4=>exact HC0_3.out);(case side5=>repeat (first | exact (Kd.C_below HR0_4.out HB.out) | (with_reducible refine Kd.C_alloc ?_ _) | (with_reducible refine Kd.C_drewN ?_ _) | (with_reducible refine Kd.C_drew ?_)));(case side6=>exact HC0_4.out);rintro e w10 ⟨rfl,hb⟩;have n0_:=Aside0.mk (blk_below (g:=gb131) (o:=.cells #[.int .i64 a0_0,.int .i64 a0_1,.slice A0_2 l0_2.length c0_2,.slice A0_3 l0_3.length c0_3,.slice A0_4 l0_4.length c0_4] 39 (0,0)) (by (with_reducible repeat (first | refine blk_drewN ?_ _ | refine blk_drew ?_ | refine blk_alloc ?_ _));exact BK131.out) hb);have n1_:=Aside0.mk (below_step (by repeat (first | (with_reducible first | exact HB.out | apply below_alloc | apply pw_below_drewN | apply below_drew1 | refine below_set ?_ GE131.out) | exact HB.out)) hb);clear BK131;clear HB;have BK131:=n0_;have HB:=n1_;clear n0_ n1_;(try clear hb);(try clear hb2);(try clear hk);(try clear hi)))
  go_ret
  exact ⟨by first | rfl | (simp [errW_none,errW_some] <;> rfl) | (simp [*,errW_none,errW_some] <;> rfl) | (exfalso;contradiction),by repeat (first | (with_reducible first | exact HB.out | apply below_alloc | apply pw_below_drewN | apply below_drew1 | refine below_set ?_ GE131.out) | exact HB.out)⟩
 ·rw [if_neg c4] at H
  have c4b0 : (t132 == 0) = false:=beq_eq_false_iff_ne.mpr c4
  have c4b1 : (t132 != 0) = true:=bne_iff_ne.mpr c4
  obtain rfl:=Option.some.inj H
  go_enter Tryz.func69,Tryz.ntmps69
  go_wp2_with (first | ((with_reducible refine gate_dst (N:=2) rfl ?_);refine box_event ?hg (N:=2) ?hd (cs:=#[.int .i64 a0_0,.int .i64 a0_1,.slice A0_2 l0_2.length c0_2,.slice A0_3 l0_3.length c0_3,.slice A0_4 l0_4.length c0_4]) (t:=39) ?hr ?_;(case hd=>rfl);(case hg=>rfl);(case hr=>first | (go_simp;done) | (go_simp;rfl));intro gb131 hg w11 hbox hb;have n0_:=Aside0.mk (below_step (by repeat (first | (with_reducible first | exact HB.out | apply below_alloc | apply pw_below_drewN | apply below_drew1) | exact HB.out)) hb);have n1_:=Aside0.mk (hbox);have n2_:=Aside0.mk ((by rw [hg];exact (below_size (by repeat (first | (with_reducible first | exact HB.out | apply below_alloc | apply pw_below_drewN | apply below_drew1) | exact HB.out))) : w.heap.size ≤ gb131));have n3_:=Aside0.mk ((by rw [hg];exact (below_size (by repeat (first | (with_reducible first | exact HB.out | apply below_alloc | apply pw_below_drewN | apply below_drew1) | exact HB.out))) : w.heap.size ≤ gb131));clear HB;have HB:=n0_;have BK131:=n1_;have GW131:=n2_;have GE131:=n3_;clear n0_ n1_ n2_ n3_;clear hb hbox hg;have hcz12_0 : w11.cell? ⟨gb131,0,none⟩ = some (.int .i64 a0_0):=(blk_cell BK131.out 0).trans rfl;have hcz12_1 : w11.cell? ⟨gb131,1,none⟩ = some (.int .i64 a0_1):=(blk_cell BK131.out 1).trans rfl;have hcz12_2 : w11.cell? ⟨gb131,2,none⟩ = some (.slice A0_2 l0_2.length c0_2):=(blk_cell BK131.out 2).trans rfl;have hcz12_3 : w11.cell? ⟨gb131,3,none⟩ = some (.slice A0_3 l0_3.length c0_3):=(blk_cell BK131.out 3).trans rfl;have hcz12_4 : w11.cell? ⟨gb131,4,none⟩ = some (.slice A0_4 l0_4.length c0_4):=(blk_cell BK131.out 4).trans rfl;have hfz12_0:=blk_frozen BK131.out 0;have hfz12_1:=blk_frozen BK131.out 1;have hfz12_2:=blk_frozen BK131.out 2;have hfz12_3:=blk_frozen BK131.out 3;have hfz12_4:=blk_frozen BK131.out 4) | ((with_reducible refine gate_callee (f:=59) rfl ?_);refine goesL_ (some 6) rfl rfl Tryz.func59 (by kernel_rfl) rfl #[.agg #[.int .i64 a0_0,.int .i64 a0_1,.slice A0_2 l0_2.length c0_2,.slice A0_3 l0_3.length c0_3,.slice A0_4 l0_4.length c0_4]] rfl (by (try simp only [List.map_toArray,List.map_cons,List.map_nil]);first | done | rfl | (simp only [List.length_drop,List.length_take];rfl)) ?_;(with_reducible refine (grid_Check.calls k a0_0 a0_1 _ _ l0_2 _ _ l0_3 _ _ l0_4 t132 _ ?side1 ?side2 ?side3 ?side4 ?side5 ?side6 A3.out).mono ?_);(case side1=>repeat (first | exact (Kd.C_below HR0_2.out HB.out) | (with_reducible refine Kd.C_alloc ?_ _) | (with_reducible refine Kd.C_drewN ?_ _) | (with_reducible refine Kd.C_drew ?_)));(case side2=>exact HC0_2.out);(case side3=>repeat (first | exact (Kd.C_below HR0_3.out HB.out) | (with_reducible refine Kd.C_alloc ?_ _) | (with_reducible refine Kd.C_drewN ?_ _) | (with_reducible refine Kd.C_drew ?_)));(case side4=>exact HC0_3.out);(case side5=>repeat (first | exact (Kd.C_below HR0_4.out HB.out) | (with_reducible refine Kd.C_alloc ?_ _) | (with_reducible refine Kd.C_drewN ?_ _) | (with_reducible refine Kd.C_drew ?_)));(case side6=>exact HC0_4.out);rintro e w13 ⟨rfl,hb⟩;refine ⟨_,rfl,?_⟩;have n0_:=Aside0.mk (blk_below (g:=gb131) (o:=.cells #[.int .i64 a0_0,.int .i64 a0_1,.slice A0_2 l0_2.length c0_2,.slice A0_3 l0_3.length c0_3,.slice A0_4 l0_4.length c0_4] 39 (0,0)) (by (with_reducible repeat (first | refine blk_drewN ?_ _ | refine blk_drew ?_ | refine blk_alloc ?_ _));exact BK131.out) hb);have n1_:=Aside0.mk (below_step (by repeat (first | (with_reducible first | exact HB.out | apply below_alloc | apply pw_below_drewN | apply below_drew1 | refine below_set ?_ GE131.out) | exact HB.out)) hb);clear BK131;clear HB;have BK131:=n0_;have HB:=n1_;clear n0_ n1_;(try clear hb);(try clear hb2);(try clear hk);(try clear hi)))
  go_ret
  exact ⟨by first | rfl | (simp [errW_none,errW_some] <;> rfl) | (simp [*,errW_none,errW_some] <;> rfl) | (exfalso;contradiction),by repeat (first | (with_reducible first | exact HB.out | apply below_alloc | apply pw_below_drewN | apply below_drew1 | refine below_set ?_ GE131.out) | exact HB.out)⟩
end Go.Proofs.YtjopbfidjapmbaaGreatDoor.Q
end
section
namespace Go.Proofs.YtjopbfidjapmbaaGreatDoor.Q
open Go.RowKit Go.Proofs.YtjopbfidjapmbaaGreatDoorW.PrintWords Go.Proofs.YtjopbfidjapmbaaGreatDoorW.PrintLast Go.Proofs.YtjopbfidjapmbaaGreatDoorW.PrintMore
attribute [local go_sem] max2_int min2_int max_two min_two max_three min_three max_four min_four
set_option linter.unusedVariables false
set_option linter.unusedSimpArgs false
open Go.Proofs.YtjopbfidjapmbaaGreatDoorS
def waysV : Value:=.agg #[.int .i64 0,.int .i64 1,.int .i64 1,.int .i64 0,.int .i64 0,.int .i64 (-1),.int .i64 (-1),.int .i64 0]
set_option maxHeartbeats 4000000 in
set_option maxRecDepth 1000000 in
theorem grid_ways.calls (w : World) :
  Calls Tryz.prog 125 #[] w fun e w'=>e = .returned waysV ∧ Below w.heap.size w w':=by
 go_enter Tryz.func125,Tryz.ntmps125
 go_wp2
 exact bodyPost_ret (v:=waysV) (by simp [results,Tryz.results125,go_sem];rfl) rfl ⟨rfl,(Below.refl _ _).alloc (Nat.le_refl _) _⟩
end Go.Proofs.YtjopbfidjapmbaaGreatDoor.Q
end
section
namespace Go.Proofs.YtjopbfidjapmbaaGreatDoor.Q
open Go.RowKit Go.Proofs.YtjopbfidjapmbaaGreatDoorW.PrintWords Go.Proofs.YtjopbfidjapmbaaGreatDoorW.PrintLast Go.Proofs.YtjopbfidjapmbaaGreatDoorW.PrintMore
attribute [local go_sem] max2_int min2_int max_two min_two max_three min_three max_four min_four
set_option linter.unusedVariables false
set_option linter.unusedSimpArgs false
open Go.Proofs.YtjopbfidjapmbaaGreatDoorS
def grid_step.f (a0_0 a0_1 : Int) (l0_2 l0_3 l0_4 : List Bool) (a1 a2 : Int) : Option (Int × Bool) :=
 if (1 ≤ a0_0 ∧ a0_0 ≤ 16) ∧ (1 ≤ a0_1 ∧ a0_1 ≤ 16) ∧ ((l0_2.length : Int) = a0_0 * a0_1 ∧ (l0_3.length : Int) = a0_0 * a0_1 ∧ (l0_4.length : Int) = a0_0 * a0_1) ∧ (0 ≤ a1 ∧ a1 < a0_0 * a0_1) ∧ (0 ≤ a2 ∧ a2 ≤ 3) then some (gstep a0_0 a0_1 l0_2 l0_3 l0_4 a1 a2) else none
theorem way0 (w : World) : (Instr.index 189 waysV (.int .i64 0)).run Tryz.prog w = .ok (.agg #[.int .i64 0,.int .i64 1]) w:=by kernel_rfl
theorem way1 (w : World) : (Instr.index 189 waysV (.int .i64 1)).run Tryz.prog w = .ok (.agg #[.int .i64 1,.int .i64 0]) w:=by kernel_rfl
theorem way2 (w : World) : (Instr.index 189 waysV (.int .i64 2)).run Tryz.prog w = .ok (.agg #[.int .i64 0,.int .i64 (-1)]) w:=by kernel_rfl
theorem way3 (w : World) : (Instr.index 189 waysV (.int .i64 3)).run Tryz.prog w = .ok (.agg #[.int .i64 (-1),.int .i64 0]) w:=by kernel_rfl
def StepPost (r : Int × Bool) (w : World) (e : Ending) (w' : World) : Prop:=e = .returned (.tuple #[.int .i64 r.1,.bool r.2]) ∧ Below w.heap.size w w'
set_option maxHeartbeats 4000000 in
set_option maxRecDepth 1000000 in
theorem grid_step0 (H W : Int) (A2 : Option Addr) (c2 : Nat) (l2 : List Bool) (A3 : Option Addr) (c3 : Nat) (l3 : List Bool) (A4 : Option Addr) (c4 : Nat) (l4 : List Bool) (i : Int) (w : World)
  (h2 : Kd.C Kd.bool w A2 l2.length l2) (h3 : Kd.C Kd.bool w A3 l3.length l3) (h4 : Kd.C Kd.bool w A4 l4.length l4)
  (hH : 1 ≤ H ∧ H ≤ 16) (hW : 1 ≤ W ∧ W ≤ 16) (hl : (l2.length : Int) = H * W ∧ (l3.length : Int) = H * W ∧ (l4.length : Int) = H * W) (hi : 0 ≤ i ∧ i < H * W) :
  Calls Tryz.prog 105 #[.agg #[.int .i64 H,.int .i64 W,.slice A2 l2.length c2,.slice A3 l3.length c3,.slice A4 l4.length c4],.int .i64 i,.int .i64 0] w (StepPost (gstep H W l2 l3 l4 i 0) w):=by
 obtain ⟨q,hq⟩ : ∃ q,i / W = q:=⟨_,rfl⟩
 obtain ⟨m,hm⟩ : ∃ m,i % W = m:=⟨_,rfl⟩
 obtain ⟨p,hp⟩ : ∃ p,q * W = p:=⟨_,rfl⟩
 obtain ⟨p2,hp2⟩ : ∃ p2,(q + 0) * W = p2:=⟨_,rfl⟩
 obtain ⟨n,hn⟩ : ∃ n,H * W = n:=⟨_,rfl⟩
 have hi0:=hi.1
 have hW1:=hW.1
 have hW2:=hW.2
 have hH1:=hH.1
 have hH2:=hH.2
 have hm0 : 0 ≤ m:=by rw [← hm];exact Int.emod_nonneg _ (by omega)
 have hmW : m < W:=by rw [← hm];exact Int.emod_lt_of_pos _ (by omega)
 have hsum : p + m = i:=by rw [← hp,← hq,← hm];have:=Int.mul_ediv_add_emod i W;rw [Int.mul_comm];omega
 have hq0 : 0 ≤ q:=by rw [← hq];exact Int.ediv_nonneg hi0 (by omega)
 have hqH : q < H:=by rw [← hq];exact Int.ediv_lt_of_lt_mul (by omega) hi.2
 have hp0 : 0 ≤ p:=by rw [← hp];exact Int.mul_nonneg hq0 (by omega)
 have hpn : p + W ≤ n:=by
  have h1 : (q + 1) * W ≤ H * W:=Int.mul_le_mul_of_nonneg_right (by omega) (by omega)
  rw [Int.add_mul,Int.one_mul] at h1
  omega
 have hn256 : n ≤ 256:=by
  have h1 : H * W ≤ 16 * 16:=Int.mul_le_mul hH2 hW2 (by omega) (by omega)
  omega
 have hp2v : p2 = p + 0 * W:=by rw [← hp2,Int.add_mul,hp]
 have hin : m + 1 < W → 0 ≤ p2 ∧ p2 + W ≤ n:=by
  intro hc
  have h1 : (q + 1) * W ≤ H * W:=Int.mul_le_mul_of_nonneg_right (by omega) (by omega)
  have h0 : 0 * W ≤ (q + 0) * W:=Int.mul_le_mul_of_nonneg_right (by omega) (by omega)
  rw [Int.add_mul,Int.one_mul] at h1
  rw [Int.zero_mul,hp2] at h0
  rw [hp] at h1
  omega
 have hdq : wrap64 (i.tdiv W) = q:=by
  rw [Int.tdiv_eq_ediv_of_nonneg hi0,hq]
  unfold wrap64
  omega
 have hqq : wrap64 q = q:=by unfold wrap64;omega
 have hqw : wrap64 ((q + 0) * W) = p2:=by rw [hp2];unfold wrap64;omega
 have hp2p : p2 = p:=by omega
 subst hp2p
 rw [Int.add_zero] at hqw hp2
 rw [hn] at hl hi
 by_cases hc : m + 1 < W
 ·have hin:=hin hc
  obtain ⟨ad2,rfl,hx2⟩:=Kd.at_bool h2 (p2 + (m + 1)) (by omega) (by omega)
  obtain ⟨ad3,rfl,hx3⟩:=Kd.at_bool h3 i (by omega) (by omega)
  have hres : gstep H W l2 l3 l4 i 0 = if rdOf false l2 (p2 + (m + 1)) then (0,false) else if rdOf false l3 i then (0,false) else ((p2 + (m + 1)),true):=by
   unfold gstep gat rdOf
   simp only [show (gby 0).1 = 0 from rfl,show (gby 0).2 = 1 from rfl,hq,hm,Int.add_zero]
   rw [hp]
   rw [if_neg (by omega),Int.min_eq_left (by omega)]
   simp
  have hmn : ¬ ((p2 + (m + 1)) < i):=by omega
  have hil : i < (l3.length : Int):=by omega
  have hjl : (p2 + (m + 1)) < (l2.length : Int):=by omega
  have hj0 : 0 ≤ (p2 + (m + 1)):=by omega
  clear hl hi hn hsum hH hW hp2v
  cases hb2 : rdOf false l2 (p2 + (m + 1)) <;> cases hb3 : rdOf false l3 i <;> rw [hb2] at hx2 <;> rw [hb3] at hx3 <;> rw [hb2,hb3] at hres <;> simp only [if_true,if_false,Bool.false_eq_true] at hres
  all_goals
   replace hres:=Lib.hid hres
   have hway:=way0
   go_enter Tryz.func105,Tryz.ntmps105
   go_wp2_with (go_at_call 125;refine (grid_ways.calls _).mono ?_;rintro e w1 ⟨rfl,hb1⟩)
   generalize hW2 : w1.alloc (.cells #[.int .i64 0,.int .i64 1] 188) = W2
   have hB2 : Below w.heap.size w W2:=by rw [← hW2];exact (((Below.refl _ w).alloc (Nat.le_refl _) _).trans (hb1.mono (by simp))).alloc (by have:=hb1.size;simp at this;omega) _
   have hbx0 : W2.cell? ⟨w.heap.size,0,none⟩ = some (.int .i64 H):=by rw [← hW2];exact cell_old1 (cell_below1 hb1 (by simp)) _
   have hbx1 : W2.cell? ⟨w.heap.size,1,none⟩ = some (.int .i64 W):=by rw [← hW2];exact cell_old1 (cell_below1 hb1 (by simp)) _
   have hbx2 : W2.cell? ⟨w.heap.size,2,none⟩ = some (.slice (some ad2) l2.length c2):=by rw [← hW2];exact cell_old1 (cell_below1 hb1 (by simp)) _
   have hbx3 : W2.cell? ⟨w.heap.size,3,none⟩ = some (.slice (some ad3) l3.length c3):=by rw [← hW2];exact cell_old1 (cell_below1 hb1 (by simp)) _
   have hbx4 : W2.cell? ⟨w.heap.size,4,none⟩ = some (.slice A4 l4.length c4):=by rw [← hW2];exact cell_old1 (cell_below1 hb1 (by simp)) _
   have hby0 : W2.cell? ⟨w1.heap.size,0,none⟩ = some (.int .i64 0):=by rw [← hW2];simp
   have hby1 : W2.cell? ⟨w1.heap.size,1,none⟩ = some (.int .i64 1):=by rw [← hW2];simp
   replace hx2:=cell_below1 hB2 hx2
   replace hx3:=cell_below1 hB2 hx3
   clear hW2
   go_quiet (fail)
   go_wp2
  all_goals go_ret2
  all_goals rw [hres.out]
  all_goals exact ⟨rfl,pw_below_drewN hB2 _⟩
 ·have hres : gstep H W l2 l3 l4 i 0 = (0,false):=by
   unfold gstep
   simp only [show (gby 0).1 = 0 from rfl,show (gby 0).2 = 1 from rfl,hq,hm,Int.add_zero]
   rw [if_pos (by omega)]
  replace hres:=Lib.hid hres
  have hway:=way0
  clear hl hi hn hsum hH hW hp2v hin
  go_enter Tryz.func105,Tryz.ntmps105
  go_wp2_with (go_at_call 125;refine (grid_ways.calls _).mono ?_;rintro e w1 ⟨rfl,hb1⟩)
  generalize hW2 : w1.alloc (.cells #[.int .i64 0,.int .i64 1] 188) = W2
  have hB2 : Below w.heap.size w W2:=by rw [← hW2];exact (((Below.refl _ w).alloc (Nat.le_refl _) _).trans (hb1.mono (by simp))).alloc (by have:=hb1.size;simp at this;omega) _
  have hbx0 : W2.cell? ⟨w.heap.size,0,none⟩ = some (.int .i64 H):=by rw [← hW2];exact cell_old1 (cell_below1 hb1 (by simp)) _
  have hbx1 : W2.cell? ⟨w.heap.size,1,none⟩ = some (.int .i64 W):=by rw [← hW2];exact cell_old1 (cell_below1 hb1 (by simp)) _
  have hby0 : W2.cell? ⟨w1.heap.size,0,none⟩ = some (.int .i64 0):=by rw [← hW2];simp
  have hby1 : W2.cell? ⟨w1.heap.size,1,none⟩ = some (.int .i64 1):=by rw [← hW2];simp
  clear hW2
  go_quiet (fail)
  go_wp2
  all_goals go_ret2
  all_goals rw [hres.out]
  all_goals exact ⟨rfl,pw_below_drewN hB2 _⟩
set_option maxHeartbeats 4000000 in
set_option maxRecDepth 1000000 in
theorem grid_step1 (H W : Int) (A2 : Option Addr) (c2 : Nat) (l2 : List Bool) (A3 : Option Addr) (c3 : Nat) (l3 : List Bool) (A4 : Option Addr) (c4 : Nat) (l4 : List Bool) (i : Int) (w : World)
  (h2 : Kd.C Kd.bool w A2 l2.length l2) (h3 : Kd.C Kd.bool w A3 l3.length l3) (h4 : Kd.C Kd.bool w A4 l4.length l4)
  (hH : 1 ≤ H ∧ H ≤ 16) (hW : 1 ≤ W ∧ W ≤ 16) (hl : (l2.length : Int) = H * W ∧ (l3.length : Int) = H * W ∧ (l4.length : Int) = H * W) (hi : 0 ≤ i ∧ i < H * W) :
  Calls Tryz.prog 105 #[.agg #[.int .i64 H,.int .i64 W,.slice A2 l2.length c2,.slice A3 l3.length c3,.slice A4 l4.length c4],.int .i64 i,.int .i64 1] w (StepPost (gstep H W l2 l3 l4 i 1) w):=by
 obtain ⟨q,hq⟩ : ∃ q,i / W = q:=⟨_,rfl⟩
 obtain ⟨m,hm⟩ : ∃ m,i % W = m:=⟨_,rfl⟩
 obtain ⟨p,hp⟩ : ∃ p,q * W = p:=⟨_,rfl⟩
 obtain ⟨p2,hp2⟩ : ∃ p2,(q + 1) * W = p2:=⟨_,rfl⟩
 obtain ⟨n,hn⟩ : ∃ n,H * W = n:=⟨_,rfl⟩
 have hi0:=hi.1
 have hW1:=hW.1
 have hW2:=hW.2
 have hH1:=hH.1
 have hH2:=hH.2
 have hm0 : 0 ≤ m:=by rw [← hm];exact Int.emod_nonneg _ (by omega)
 have hmW : m < W:=by rw [← hm];exact Int.emod_lt_of_pos _ (by omega)
 have hsum : p + m = i:=by rw [← hp,← hq,← hm];have:=Int.mul_ediv_add_emod i W;rw [Int.mul_comm];omega
 have hq0 : 0 ≤ q:=by rw [← hq];exact Int.ediv_nonneg hi0 (by omega)
 have hqH : q < H:=by rw [← hq];exact Int.ediv_lt_of_lt_mul (by omega) hi.2
 have hp0 : 0 ≤ p:=by rw [← hp];exact Int.mul_nonneg hq0 (by omega)
 have hpn : p + W ≤ n:=by
  have h1 : (q + 1) * W ≤ H * W:=Int.mul_le_mul_of_nonneg_right (by omega) (by omega)
  rw [Int.add_mul,Int.one_mul] at h1
  omega
 have hn256 : n ≤ 256:=by
  have h1 : H * W ≤ 16 * 16:=Int.mul_le_mul hH2 hW2 (by omega) (by omega)
  omega
 have hp2v : p2 = p + 1 * W:=by rw [← hp2,Int.add_mul,hp]
 have hin : q + 1 < H → 0 ≤ p2 ∧ p2 + W ≤ n:=by
  intro hc
  have h1 : (q + 1 + 1) * W ≤ H * W:=Int.mul_le_mul_of_nonneg_right (by omega) (by omega)
  have h0 : 0 * W ≤ (q + 1) * W:=Int.mul_le_mul_of_nonneg_right (by omega) (by omega)
  rw [Int.add_mul,Int.one_mul] at h1
  rw [Int.zero_mul,hp2] at h0
  rw [hp2] at h1
  omega
 have hdq : wrap64 (i.tdiv W) = q:=by
  rw [Int.tdiv_eq_ediv_of_nonneg hi0,hq]
  unfold wrap64
  omega
 have hqq : wrap64 q = q:=by unfold wrap64;omega
 have hqw : wrap64 ((q + 1) * W) = p2:=by rw [hp2];unfold wrap64;omega
 rw [hn] at hl hi
 by_cases hc : q + 1 < H
 ·have hin:=hin hc
  obtain ⟨ad2,rfl,hx2⟩:=Kd.at_bool h2 (p2 + m) (by omega) (by omega)
  obtain ⟨ad3,rfl,hx3⟩:=Kd.at_bool h4 i (by omega) (by omega)
  have hres : gstep H W l2 l3 l4 i 1 = if rdOf false l2 (p2 + m) then (0,false) else if rdOf false l4 i then (0,false) else ((p2 + m),true):=by
   unfold gstep gat rdOf
   simp only [show (gby 1).1 = 1 from rfl,show (gby 1).2 = 0 from rfl,hq,hm,Int.add_zero]
   rw [hp2]
   rw [if_neg (by omega),Int.min_eq_left (by omega)]
   simp
  have hmn : ¬ ((p2 + m) < i):=by omega
  have hil : i < (l4.length : Int):=by omega
  have hjl : (p2 + m) < (l2.length : Int):=by omega
  have hj0 : 0 ≤ (p2 + m):=by omega
  clear hl hi hn hsum hH hW hp2v
  cases hb2 : rdOf false l2 (p2 + m) <;> cases hb3 : rdOf false l4 i <;> rw [hb2] at hx2 <;> rw [hb3] at hx3 <;> rw [hb2,hb3] at hres <;> simp only [if_true,if_false,Bool.false_eq_true] at hres
  all_goals
   replace hres:=Lib.hid hres
   have hway:=way1
   go_enter Tryz.func105,Tryz.ntmps105
   go_wp2_with (go_at_call 125;refine (grid_ways.calls _).mono ?_;rintro e w1 ⟨rfl,hb1⟩)
   generalize hW2 : w1.alloc (.cells #[.int .i64 1,.int .i64 0] 188) = W2
   have hB2 : Below w.heap.size w W2:=by rw [← hW2];exact (((Below.refl _ w).alloc (Nat.le_refl _) _).trans (hb1.mono (by simp))).alloc (by have:=hb1.size;simp at this;omega) _
   have hbx0 : W2.cell? ⟨w.heap.size,0,none⟩ = some (.int .i64 H):=by rw [← hW2];exact cell_old1 (cell_below1 hb1 (by simp)) _
   have hbx1 : W2.cell? ⟨w.heap.size,1,none⟩ = some (.int .i64 W):=by rw [← hW2];exact cell_old1 (cell_below1 hb1 (by simp)) _
   have hbx2 : W2.cell? ⟨w.heap.size,2,none⟩ = some (.slice (some ad2) l2.length c2):=by rw [← hW2];exact cell_old1 (cell_below1 hb1 (by simp)) _
   have hbx3 : W2.cell? ⟨w.heap.size,3,none⟩ = some (.slice A3 l3.length c3):=by rw [← hW2];exact cell_old1 (cell_below1 hb1 (by simp)) _
   have hbx4 : W2.cell? ⟨w.heap.size,4,none⟩ = some (.slice (some ad3) l4.length c4):=by rw [← hW2];exact cell_old1 (cell_below1 hb1 (by simp)) _
   have hby0 : W2.cell? ⟨w1.heap.size,0,none⟩ = some (.int .i64 1):=by rw [← hW2];simp
   have hby1 : W2.cell? ⟨w1.heap.size,1,none⟩ = some (.int .i64 0):=by rw [← hW2];simp
   replace hx2:=cell_below1 hB2 hx2
   replace hx3:=cell_below1 hB2 hx3
   clear hW2
   go_quiet (fail)
   go_wp2
  all_goals go_ret2
  all_goals rw [hres.out]
  all_goals exact ⟨rfl,pw_below_drewN hB2 _⟩
 ·have hres : gstep H W l2 l3 l4 i 1 = (0,false):=by
   unfold gstep
   simp only [show (gby 1).1 = 1 from rfl,show (gby 1).2 = 0 from rfl,hq,hm,Int.add_zero]
   rw [if_pos (by omega)]
  replace hres:=Lib.hid hres
  have hway:=way1
  clear hl hi hn hsum hH hW hp2v hin
  go_enter Tryz.func105,Tryz.ntmps105
  go_wp2_with (go_at_call 125;refine (grid_ways.calls _).mono ?_;rintro e w1 ⟨rfl,hb1⟩)
  generalize hW2 : w1.alloc (.cells #[.int .i64 1,.int .i64 0] 188) = W2
  have hB2 : Below w.heap.size w W2:=by rw [← hW2];exact (((Below.refl _ w).alloc (Nat.le_refl _) _).trans (hb1.mono (by simp))).alloc (by have:=hb1.size;simp at this;omega) _
  have hbx0 : W2.cell? ⟨w.heap.size,0,none⟩ = some (.int .i64 H):=by rw [← hW2];exact cell_old1 (cell_below1 hb1 (by simp)) _
  have hbx1 : W2.cell? ⟨w.heap.size,1,none⟩ = some (.int .i64 W):=by rw [← hW2];exact cell_old1 (cell_below1 hb1 (by simp)) _
  have hby0 : W2.cell? ⟨w1.heap.size,0,none⟩ = some (.int .i64 1):=by rw [← hW2];simp
  have hby1 : W2.cell? ⟨w1.heap.size,1,none⟩ = some (.int .i64 0):=by rw [← hW2];simp
  clear hW2
  go_quiet (fail)
  go_wp2
  all_goals go_ret2
  all_goals rw [hres.out]
  all_goals exact ⟨rfl,pw_below_drewN hB2 _⟩
set_option maxHeartbeats 4000000 in
set_option maxRecDepth 1000000 in
theorem grid_step2 (H W : Int) (A2 : Option Addr) (c2 : Nat) (l2 : List Bool) (A3 : Option Addr) (c3 : Nat) (l3 : List Bool) (A4 : Option Addr) (c4 : Nat) (l4 : List Bool) (i : Int) (w : World)
  (h2 : Kd.C Kd.bool w A2 l2.length l2) (h3 : Kd.C Kd.bool w A3 l3.length l3) (h4 : Kd.C Kd.bool w A4 l4.length l4)
  (hH : 1 ≤ H ∧ H ≤ 16) (hW : 1 ≤ W ∧ W ≤ 16) (hl : (l2.length : Int) = H * W ∧ (l3.length : Int) = H * W ∧ (l4.length : Int) = H * W) (hi : 0 ≤ i ∧ i < H * W) :
  Calls Tryz.prog 105 #[.agg #[.int .i64 H,.int .i64 W,.slice A2 l2.length c2,.slice A3 l3.length c3,.slice A4 l4.length c4],.int .i64 i,.int .i64 2] w (StepPost (gstep H W l2 l3 l4 i 2) w):=by
 obtain ⟨q,hq⟩ : ∃ q,i / W = q:=⟨_,rfl⟩
 obtain ⟨m,hm⟩ : ∃ m,i % W = m:=⟨_,rfl⟩
 obtain ⟨p,hp⟩ : ∃ p,q * W = p:=⟨_,rfl⟩
 obtain ⟨p2,hp2⟩ : ∃ p2,(q + 0) * W = p2:=⟨_,rfl⟩
 obtain ⟨n,hn⟩ : ∃ n,H * W = n:=⟨_,rfl⟩
 have hi0:=hi.1
 have hW1:=hW.1
 have hW2:=hW.2
 have hH1:=hH.1
 have hH2:=hH.2
 have hm0 : 0 ≤ m:=by rw [← hm];exact Int.emod_nonneg _ (by omega)
 have hmW : m < W:=by rw [← hm];exact Int.emod_lt_of_pos _ (by omega)
 have hsum : p + m = i:=by rw [← hp,← hq,← hm];have:=Int.mul_ediv_add_emod i W;rw [Int.mul_comm];omega
 have hq0 : 0 ≤ q:=by rw [← hq];exact Int.ediv_nonneg hi0 (by omega)
 have hqH : q < H:=by rw [← hq];exact Int.ediv_lt_of_lt_mul (by omega) hi.2
 have hp0 : 0 ≤ p:=by rw [← hp];exact Int.mul_nonneg hq0 (by omega)
 have hpn : p + W ≤ n:=by
  have h1 : (q + 1) * W ≤ H * W:=Int.mul_le_mul_of_nonneg_right (by omega) (by omega)
  rw [Int.add_mul,Int.one_mul] at h1
  omega
 have hn256 : n ≤ 256:=by
  have h1 : H * W ≤ 16 * 16:=Int.mul_le_mul hH2 hW2 (by omega) (by omega)
  omega
 have hp2v : p2 = p + 0 * W:=by rw [← hp2,Int.add_mul,hp]
 have hin : 0 ≤ m + -1 → 0 ≤ p2 ∧ p2 + W ≤ n:=by
  intro hc
  have h1 : (q + 1) * W ≤ H * W:=Int.mul_le_mul_of_nonneg_right (by omega) (by omega)
  have h0 : 0 * W ≤ (q + 0) * W:=Int.mul_le_mul_of_nonneg_right (by omega) (by omega)
  rw [Int.add_mul,Int.one_mul] at h1
  rw [Int.zero_mul,hp2] at h0
  rw [hp] at h1
  omega
 have hdq : wrap64 (i.tdiv W) = q:=by
  rw [Int.tdiv_eq_ediv_of_nonneg hi0,hq]
  unfold wrap64
  omega
 have hqq : wrap64 q = q:=by unfold wrap64;omega
 have hqw : wrap64 ((q + 0) * W) = p2:=by rw [hp2];unfold wrap64;omega
 have hp2p : p2 = p:=by omega
 subst hp2p
 rw [Int.add_zero] at hqw hp2
 rw [hn] at hl hi
 by_cases hc : 0 ≤ m + -1
 ·have hin:=hin hc
  obtain ⟨ad2,rfl,hx2⟩:=Kd.at_bool h2 (p2 + (m + -1)) (by omega) (by omega)
  obtain ⟨ad3,rfl,hx3⟩:=Kd.at_bool h3 (p2 + (m + -1)) (by omega) (by omega)
  have hres : gstep H W l2 l3 l4 i 2 = if rdOf false l2 (p2 + (m + -1)) then (0,false) else if rdOf false l3 (p2 + (m + -1)) then (0,false) else ((p2 + (m + -1)),true):=by
   unfold gstep gat rdOf
   simp only [show (gby 2).1 = 0 from rfl,show (gby 2).2 = (-1) from rfl,hq,hm,Int.add_zero]
   rw [hp]
   rw [if_neg (by omega),Int.min_eq_right (by omega)]
   simp
  have hmn : (p2 + (m + -1)) < i:=by omega
  have hil : (p2 + (m + -1)) < (l3.length : Int):=by omega
  have hjl : (p2 + (m + -1)) < (l2.length : Int):=by omega
  have hj0 : 0 ≤ (p2 + (m + -1)):=by omega
  clear hl hi hn hsum hH hW hp2v
  cases hb2 : rdOf false l2 (p2 + (m + -1)) <;> cases hb3 : rdOf false l3 (p2 + (m + -1)) <;> rw [hb2] at hx2 <;> rw [hb3] at hx3 <;> rw [hb2,hb3] at hres <;> simp only [if_true,if_false,Bool.false_eq_true] at hres
  all_goals
   replace hres:=Lib.hid hres
   have hway:=way2
   go_enter Tryz.func105,Tryz.ntmps105
   go_wp2_with (go_at_call 125;refine (grid_ways.calls _).mono ?_;rintro e w1 ⟨rfl,hb1⟩)
   generalize hW2 : w1.alloc (.cells #[.int .i64 0,.int .i64 (-1)] 188) = W2
   have hB2 : Below w.heap.size w W2:=by rw [← hW2];exact (((Below.refl _ w).alloc (Nat.le_refl _) _).trans (hb1.mono (by simp))).alloc (by have:=hb1.size;simp at this;omega) _
   have hbx0 : W2.cell? ⟨w.heap.size,0,none⟩ = some (.int .i64 H):=by rw [← hW2];exact cell_old1 (cell_below1 hb1 (by simp)) _
   have hbx1 : W2.cell? ⟨w.heap.size,1,none⟩ = some (.int .i64 W):=by rw [← hW2];exact cell_old1 (cell_below1 hb1 (by simp)) _
   have hbx2 : W2.cell? ⟨w.heap.size,2,none⟩ = some (.slice (some ad2) l2.length c2):=by rw [← hW2];exact cell_old1 (cell_below1 hb1 (by simp)) _
   have hbx3 : W2.cell? ⟨w.heap.size,3,none⟩ = some (.slice (some ad3) l3.length c3):=by rw [← hW2];exact cell_old1 (cell_below1 hb1 (by simp)) _
   have hbx4 : W2.cell? ⟨w.heap.size,4,none⟩ = some (.slice A4 l4.length c4):=by rw [← hW2];exact cell_old1 (cell_below1 hb1 (by simp)) _
   have hby0 : W2.cell? ⟨w1.heap.size,0,none⟩ = some (.int .i64 0):=by rw [← hW2];simp
   have hby1 : W2.cell? ⟨w1.heap.size,1,none⟩ = some (.int .i64 (-1)):=by rw [← hW2];simp
   replace hx2:=cell_below1 hB2 hx2
   replace hx3:=cell_below1 hB2 hx3
   clear hW2
   go_quiet (fail)
   go_wp2
  all_goals go_ret2
  all_goals rw [hres.out]
  all_goals exact ⟨rfl,pw_below_drewN hB2 _⟩
 ·have hres : gstep H W l2 l3 l4 i 2 = (0,false):=by
   unfold gstep
   simp only [show (gby 2).1 = 0 from rfl,show (gby 2).2 = (-1) from rfl,hq,hm,Int.add_zero]
   rw [if_pos (by omega)]
  replace hres:=Lib.hid hres
  have hway:=way2
  clear hl hi hn hsum hH hW hp2v hin
  go_enter Tryz.func105,Tryz.ntmps105
  go_wp2_with (go_at_call 125;refine (grid_ways.calls _).mono ?_;rintro e w1 ⟨rfl,hb1⟩)
  generalize hW2 : w1.alloc (.cells #[.int .i64 0,.int .i64 (-1)] 188) = W2
  have hB2 : Below w.heap.size w W2:=by rw [← hW2];exact (((Below.refl _ w).alloc (Nat.le_refl _) _).trans (hb1.mono (by simp))).alloc (by have:=hb1.size;simp at this;omega) _
  have hbx0 : W2.cell? ⟨w.heap.size,0,none⟩ = some (.int .i64 H):=by rw [← hW2];exact cell_old1 (cell_below1 hb1 (by simp)) _
  have hbx1 : W2.cell? ⟨w.heap.size,1,none⟩ = some (.int .i64 W):=by rw [← hW2];exact cell_old1 (cell_below1 hb1 (by simp)) _
  have hby0 : W2.cell? ⟨w1.heap.size,0,none⟩ = some (.int .i64 0):=by rw [← hW2];simp
  have hby1 : W2.cell? ⟨w1.heap.size,1,none⟩ = some (.int .i64 (-1)):=by rw [← hW2];simp
  clear hW2
  go_quiet (fail)
  go_wp2
  all_goals go_ret2
  all_goals rw [hres.out]
  all_goals exact ⟨rfl,pw_below_drewN hB2 _⟩
set_option maxHeartbeats 4000000 in
set_option maxRecDepth 1000000 in
theorem grid_step3 (H W : Int) (A2 : Option Addr) (c2 : Nat) (l2 : List Bool) (A3 : Option Addr) (c3 : Nat) (l3 : List Bool) (A4 : Option Addr) (c4 : Nat) (l4 : List Bool) (i : Int) (w : World)
  (h2 : Kd.C Kd.bool w A2 l2.length l2) (h3 : Kd.C Kd.bool w A3 l3.length l3) (h4 : Kd.C Kd.bool w A4 l4.length l4)
  (hH : 1 ≤ H ∧ H ≤ 16) (hW : 1 ≤ W ∧ W ≤ 16) (hl : (l2.length : Int) = H * W ∧ (l3.length : Int) = H * W ∧ (l4.length : Int) = H * W) (hi : 0 ≤ i ∧ i < H * W) :
  Calls Tryz.prog 105 #[.agg #[.int .i64 H,.int .i64 W,.slice A2 l2.length c2,.slice A3 l3.length c3,.slice A4 l4.length c4],.int .i64 i,.int .i64 3] w (StepPost (gstep H W l2 l3 l4 i 3) w):=by
 obtain ⟨q,hq⟩ : ∃ q,i / W = q:=⟨_,rfl⟩
 obtain ⟨m,hm⟩ : ∃ m,i % W = m:=⟨_,rfl⟩
 obtain ⟨p,hp⟩ : ∃ p,q * W = p:=⟨_,rfl⟩
 obtain ⟨p2,hp2⟩ : ∃ p2,(q + (-1)) * W = p2:=⟨_,rfl⟩
 obtain ⟨n,hn⟩ : ∃ n,H * W = n:=⟨_,rfl⟩
 have hi0:=hi.1
 have hW1:=hW.1
 have hW2:=hW.2
 have hH1:=hH.1
 have hH2:=hH.2
 have hm0 : 0 ≤ m:=by rw [← hm];exact Int.emod_nonneg _ (by omega)
 have hmW : m < W:=by rw [← hm];exact Int.emod_lt_of_pos _ (by omega)
 have hsum : p + m = i:=by rw [← hp,← hq,← hm];have:=Int.mul_ediv_add_emod i W;rw [Int.mul_comm];omega
 have hq0 : 0 ≤ q:=by rw [← hq];exact Int.ediv_nonneg hi0 (by omega)
 have hqH : q < H:=by rw [← hq];exact Int.ediv_lt_of_lt_mul (by omega) hi.2
 have hp0 : 0 ≤ p:=by rw [← hp];exact Int.mul_nonneg hq0 (by omega)
 have hpn : p + W ≤ n:=by
  have h1 : (q + 1) * W ≤ H * W:=Int.mul_le_mul_of_nonneg_right (by omega) (by omega)
  rw [Int.add_mul,Int.one_mul] at h1
  omega
 have hn256 : n ≤ 256:=by
  have h1 : H * W ≤ 16 * 16:=Int.mul_le_mul hH2 hW2 (by omega) (by omega)
  omega
 have hp2v : p2 = p + (-1) * W:=by rw [← hp2,Int.add_mul,hp]
 have hin : 0 ≤ q + -1 → 0 ≤ p2 ∧ p2 + W ≤ n:=by
  intro hc
  have h1 : (q + -1 + 1) * W ≤ H * W:=Int.mul_le_mul_of_nonneg_right (by omega) (by omega)
  have h0 : 0 * W ≤ (q + (-1)) * W:=Int.mul_le_mul_of_nonneg_right (by omega) (by omega)
  rw [Int.add_mul,Int.one_mul] at h1
  rw [Int.zero_mul,hp2] at h0
  rw [hp2] at h1
  omega
 have hdq : wrap64 (i.tdiv W) = q:=by
  rw [Int.tdiv_eq_ediv_of_nonneg hi0,hq]
  unfold wrap64
  omega
 have hqq : wrap64 q = q:=by unfold wrap64;omega
 have hqw : wrap64 ((q + (-1)) * W) = p2:=by rw [hp2];unfold wrap64;omega
 rw [hn] at hl hi
 by_cases hc : 0 ≤ q + -1
 ·have hin:=hin hc
  obtain ⟨ad2,rfl,hx2⟩:=Kd.at_bool h2 (p2 + m) (by omega) (by omega)
  obtain ⟨ad3,rfl,hx3⟩:=Kd.at_bool h4 (p2 + m) (by omega) (by omega)
  have hres : gstep H W l2 l3 l4 i 3 = if rdOf false l2 (p2 + m) then (0,false) else if rdOf false l4 (p2 + m) then (0,false) else ((p2 + m),true):=by
   unfold gstep gat rdOf
   simp only [show (gby 3).1 = (-1) from rfl,show (gby 3).2 = 0 from rfl,hq,hm,Int.add_zero]
   rw [hp2]
   rw [if_neg (by omega),Int.min_eq_right (by omega)]
   simp
  have hmn : (p2 + m) < i:=by omega
  have hil : (p2 + m) < (l4.length : Int):=by omega
  have hjl : (p2 + m) < (l2.length : Int):=by omega
  have hj0 : 0 ≤ (p2 + m):=by omega
  clear hl hi hn hsum hH hW hp2v
  cases hb2 : rdOf false l2 (p2 + m) <;> cases hb3 : rdOf false l4 (p2 + m) <;> rw [hb2] at hx2 <;> rw [hb3] at hx3 <;> rw [hb2,hb3] at hres <;> simp only [if_true,if_false,Bool.false_eq_true] at hres
  all_goals
   replace hres:=Lib.hid hres
   have hway:=way3
   go_enter Tryz.func105,Tryz.ntmps105
   go_wp2_with (go_at_call 125;refine (grid_ways.calls _).mono ?_;rintro e w1 ⟨rfl,hb1⟩)
   generalize hW2 : w1.alloc (.cells #[.int .i64 (-1),.int .i64 0] 188) = W2
   have hB2 : Below w.heap.size w W2:=by rw [← hW2];exact (((Below.refl _ w).alloc (Nat.le_refl _) _).trans (hb1.mono (by simp))).alloc (by have:=hb1.size;simp at this;omega) _
   have hbx0 : W2.cell? ⟨w.heap.size,0,none⟩ = some (.int .i64 H):=by rw [← hW2];exact cell_old1 (cell_below1 hb1 (by simp)) _
   have hbx1 : W2.cell? ⟨w.heap.size,1,none⟩ = some (.int .i64 W):=by rw [← hW2];exact cell_old1 (cell_below1 hb1 (by simp)) _
   have hbx2 : W2.cell? ⟨w.heap.size,2,none⟩ = some (.slice (some ad2) l2.length c2):=by rw [← hW2];exact cell_old1 (cell_below1 hb1 (by simp)) _
   have hbx3 : W2.cell? ⟨w.heap.size,3,none⟩ = some (.slice A3 l3.length c3):=by rw [← hW2];exact cell_old1 (cell_below1 hb1 (by simp)) _
   have hbx4 : W2.cell? ⟨w.heap.size,4,none⟩ = some (.slice (some ad3) l4.length c4):=by rw [← hW2];exact cell_old1 (cell_below1 hb1 (by simp)) _
   have hby0 : W2.cell? ⟨w1.heap.size,0,none⟩ = some (.int .i64 (-1)):=by rw [← hW2];simp
   have hby1 : W2.cell? ⟨w1.heap.size,1,none⟩ = some (.int .i64 0):=by rw [← hW2];simp
   replace hx2:=cell_below1 hB2 hx2
   replace hx3:=cell_below1 hB2 hx3
   clear hW2
   go_quiet (fail)
   go_wp2
  all_goals go_ret2
  all_goals rw [hres.out]
  all_goals exact ⟨rfl,pw_below_drewN hB2 _⟩
 ·have hres : gstep H W l2 l3 l4 i 3 = (0,false):=by
   unfold gstep
   simp only [show (gby 3).1 = (-1) from rfl,show (gby 3).2 = 0 from rfl,hq,hm,Int.add_zero]
   rw [if_pos (by omega)]
  replace hres:=Lib.hid hres
  have hway:=way3
  clear hl hi hn hsum hH hW hp2v hin
  go_enter Tryz.func105,Tryz.ntmps105
  go_wp2_with (go_at_call 125;refine (grid_ways.calls _).mono ?_;rintro e w1 ⟨rfl,hb1⟩)
  generalize hW2 : w1.alloc (.cells #[.int .i64 (-1),.int .i64 0] 188) = W2
  have hB2 : Below w.heap.size w W2:=by rw [← hW2];exact (((Below.refl _ w).alloc (Nat.le_refl _) _).trans (hb1.mono (by simp))).alloc (by have:=hb1.size;simp at this;omega) _
  have hbx0 : W2.cell? ⟨w.heap.size,0,none⟩ = some (.int .i64 H):=by rw [← hW2];exact cell_old1 (cell_below1 hb1 (by simp)) _
  have hbx1 : W2.cell? ⟨w.heap.size,1,none⟩ = some (.int .i64 W):=by rw [← hW2];exact cell_old1 (cell_below1 hb1 (by simp)) _
  have hby0 : W2.cell? ⟨w1.heap.size,0,none⟩ = some (.int .i64 (-1)):=by rw [← hW2];simp
  have hby1 : W2.cell? ⟨w1.heap.size,1,none⟩ = some (.int .i64 0):=by rw [← hW2];simp
  clear hW2
  go_quiet (fail)
  go_wp2
  all_goals go_ret2
  all_goals rw [hres.out]
  all_goals exact ⟨rfl,pw_below_drewN hB2 _⟩
theorem grid_step.calls (a0_0 : Int) (a0_1 : Int) (A0_2 : Option Addr) (c0_2 : Nat) (l0_2 : List Bool) (A0_3 : Option Addr) (c0_3 : Nat) (l0_3 : List Bool) (A0_4 : Option Addr) (c0_4 : Nat) (l0_4 : List Bool) (a1 : Int) (a2 : Int) (r1 : Int) (r2 : Bool) (w : World) (hr0_2 : Kd.C Kd.bool w A0_2 l0_2.length l0_2) (hc0_2 : l0_2.length ≤ c0_2) (hr0_3 : Kd.C Kd.bool w A0_3 l0_3.length l0_3) (hc0_3 : l0_3.length ≤ c0_3) (hr0_4 : Kd.C Kd.bool w A0_4 l0_4.length l0_4) (hc0_4 : l0_4.length ≤ c0_4) (h : grid_step.f a0_0 a0_1 l0_2 l0_3 l0_4 a1 a2 = some (r1,r2)) :
  Calls Tryz.prog 105 #[.agg #[.int .i64 a0_0,.int .i64 a0_1,.slice A0_2 l0_2.length c0_2,.slice A0_3 l0_3.length c0_3,.slice A0_4 l0_4.length c0_4],.int .i64 a1,.int .i64 a2] w fun e w'=>e = .returned (.tuple #[.int .i64 r1,.bool r2]) ∧ Below w.heap.size w w':=by
 obtain ⟨⟨hH,hW,hl,hi,hw⟩,he⟩:=guard_some h
 clear h
 have h4 : a2 = 0 ∨ a2 = 1 ∨ a2 = 2 ∨ a2 = 3:=by omega
 have hf : ∀ e w',StepPost (gstep a0_0 a0_1 l0_2 l0_3 l0_4 a1 a2) w e w' → e = .returned (.tuple #[.int .i64 r1,.bool r2]) ∧ Below w.heap.size w w':=by
  rintro e w' ⟨rfl,hb⟩
  rw [he]
  exact ⟨rfl,hb⟩
 rcases h4 with rfl | rfl | rfl | rfl
 ·exact (grid_step0 _ _ _ _ _ _ _ _ _ _ _ _ _ hr0_2 hr0_3 hr0_4 hH hW hl hi).mono hf
 ·exact (grid_step1 _ _ _ _ _ _ _ _ _ _ _ _ _ hr0_2 hr0_3 hr0_4 hH hW hl hi).mono hf
 ·exact (grid_step2 _ _ _ _ _ _ _ _ _ _ _ _ _ hr0_2 hr0_3 hr0_4 hH hW hl hi).mono hf
 ·exact (grid_step3 _ _ _ _ _ _ _ _ _ _ _ _ _ hr0_2 hr0_3 hr0_4 hH hW hl hi).mono hf
end Go.Proofs.YtjopbfidjapmbaaGreatDoor.Q
end
