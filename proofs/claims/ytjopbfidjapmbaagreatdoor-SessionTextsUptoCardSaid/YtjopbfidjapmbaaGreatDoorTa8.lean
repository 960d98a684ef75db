/- PART 8 OF A PROOF: Lean functions, and that the program computes them; written by hand and by a program. Not trusted: Lean checks it. -/
import Derived.Test.YtjopbfidjapmbaaGreatDoorTa3
import Derived.Test.YtjopbfidjapmbaaGreatDoorTa4
import Derived.Test.YtjopbfidjapmbaaGreatDoorTa7
set_option linter.unusedVariables false
set_option linter.unusedSimpArgs false
section
namespace Go.Proofs.YtjopbfidjapmbaaGreatDoor.Q
open Go.RowKit Go.Proofs.YtjopbfidjapmbaaGreatDoorW.PrintWords Go.Proofs.YtjopbfidjapmbaaGreatDoorW.PrintLast Go.Proofs.YtjopbfidjapmbaaGreatDoorW.PrintMore
attribute [local go_sem] max2_int min2_int max_two min_two max_three min_three max_four min_four
set_option linter.unusedVariables false
set_option linter.unusedSimpArgs false
open Go.Proofs.YtjopbfidjapmbaaGreatDoorS
theorem seat_info : (Tryz.prog.info? 150).map (fun i=>(i.zero,i.size,i.bytes)) = some (some (.agg #[(.int .i64 0),(.int .i64 0)]),2,16):=by kernel_rfl
def seatCells (s : Int) : List Int → Nat → List S150 → List S150
 | [],_,l=>l
 | i :: is,at_,l=>seatCells s is (at_ + 1) (l.set i.toNat ⟨s,(at_ : Int)⟩)
def seatS : List S137 → Nat → List S150 × List S150 → List S150 × List S150
 | [],_,p=>p
 | x :: xs,s,p=>seatS xs (s + 1) (if x.f1 then (p.1,seatCells (s : Int) x.f2 0 p.2) else (seatCells (s : Int) x.f2 0 p.1,p.2))
def seatsOf (H W : Int) (bl ri be : List Bool) : List S150 × List S150 :=
 if gcheck H W bl ri be = 0 then seatS (slotsOf H W bl ri be) 0 (List.replicate bl.length ⟨-1,0⟩,List.replicate bl.length ⟨-1,0⟩) else ([],[])
def slots_Seats.f (H W : Int) (bl ri be : List Bool) : Option (List S150 × List S150):=some (seatsOf H W bl ri be)
theorem seatCells_length (s : Int) : ∀ (cs : List Int) (k : Nat) (l : List S150),(seatCells s cs k l).length = l.length
 | [],_,_=>rfl
 | i :: is,k,l=>by simp only [seatCells];rw [seatCells_length s is];simp
theorem grun_mem {H W : Int} {bl ri be : List Bool} (hc : gcheck H W bl ri be = 0) {way : Int} (hw : way = 0 ∨ way = 1) : ∀ (f : Nat) (i : Int),0 ≤ i → i < bl.length → ∀ c ∈ grun H W bl ri be way f i,0 ≤ c ∧ c < bl.length:=by
 intro f
 induction f with
 | zero=>intro i h0 h1 c hm;simp only [grun,List.mem_singleton] at hm;subst hm;exact ⟨h0,h1⟩
 | succ f ih =>
  intro i h0 h1 c hm
  cases hok : (gStep H W bl ri be i way).2 with
  | false=>simp only [grun,hok,Bool.false_eq_true,if_false,List.mem_singleton] at hm;subst hm;exact ⟨h0,h1⟩
  | true =>
   have hy:=gStep_yes hc hw hok
   simp only [grun,hok,if_true,List.mem_cons] at hm
   rcases hm with rfl | hm
   ·exact ⟨h0,h1⟩
   ·exact ih _ (by omega) hy.2.2 c hm
theorem grun_length {H W : Int} {bl ri be : List Bool} (hc : gcheck H W bl ri be = 0) {way : Int} (hw : way = 0 ∨ way = 1) : ∀ (f : Nat) (i : Int),0 ≤ i → i < bl.length → (grun H W bl ri be way f i).length + i ≤ bl.length:=by
 intro f
 induction f with
 | zero=>intro i h0 h1;simp only [grun,List.length_singleton];omega
 | succ f ih =>
  intro i h0 h1
  cases hok : (gStep H W bl ri be i way).2 with
  | false=>simp only [grun,hok,Bool.false_eq_true,if_false,List.length_singleton];omega
  | true =>
   have hy:=gStep_yes hc hw hok
   simp only [grun,hok,if_true,List.length_cons]
   have:=ih _ (by omega) hy.2.2
   omega
theorem gslots_mem {H W : Int} {bl ri be : List Bool} (hc : gcheck H W bl ri be = 0) : ∀ (d i : Nat) (num : Int),i + d = bl.length → ∀ x ∈ gslots H W bl ri be d i num,x.2.2.length ≤ bl.length ∧ ∀ c ∈ x.2.2,0 ≤ c ∧ c < bl.length:=by
 intro d
 induction d with
 | zero=>intro i num _ x hx;simp [gslots] at hx
 | succ d ih =>
  intro i num hd x hx
  have hi0 : (0 : Int) ≤ (i : Int):=Int.natCast_nonneg _
  have hi1 : (i : Int) < (bl.length : Int):=Int.ofNat_lt.2 (by omega)
  simp only [gslots,List.mem_append] at hx
  rcases hx with (hx | hx) | hx
  ·split at hx
   ·simp only [List.mem_singleton] at hx
    subst hx
    exact ⟨by have:=grun_length hc (.inl rfl) bl.length (i : Int) hi0 hi1;simp only;omega,grun_mem hc (.inl rfl) _ _ hi0 hi1⟩
   ·simp at hx
  ·split at hx
   ·simp only [List.mem_singleton] at hx
    subst hx
    exact ⟨by have:=grun_length hc (.inr rfl) bl.length (i : Int) hi0 hi1;simp only;omega,grun_mem hc (.inr rfl) _ _ hi0 hi1⟩
   ·simp at hx
  ·exact ih (i + 1) _ (by omega) x hx
theorem gslots_count (H W : Int) (bl ri be : List Bool) : ∀ (d i : Nat) (num : Int),(gslots H W bl ri be d i num).length ≤ 2 * d:=by
 intro d
 induction d with
 | zero=>intro i num;simp [gslots]
 | succ d ih =>
  intro i num
  simp only [gslots,List.length_append]
  have:=ih (i + 1) (if gbegins H W bl ri be i 0 || gbegins H W bl ri be i 1 then num + 1 else num)
  split <;> split <;> simp only [List.length_singleton,List.length_nil] <;> omega
theorem slotsOf_facts {H W : Int} {bl ri be : List Bool} (hc : gcheck H W bl ri be = 0) : (slotsOf H W bl ri be).length ≤ 2 * bl.length ∧ ∀ x ∈ slotsOf H W bl ri be,x.f2.length ≤ bl.length ∧ ∀ c ∈ x.f2,0 ≤ c ∧ c < bl.length:=by
 unfold slotsOf
 rw [if_pos hc]
 refine ⟨by rw [List.length_map];exact gslots_count _ _ _ _ _ _ _ _,fun x hx=>?_⟩
 obtain ⟨y,hy,rfl⟩:=List.mem_map.1 hx
 exact gslots_mem hc bl.length 0 0 (by omega) y hy
theorem drop_rd {L : List S137} {m : Nat} (h : m < L.length) : L.drop m = rd_T137 L (m : Int) :: L.drop (m + 1):=by
 rw [List.drop_eq_getElem_cons h]
 simp [rd_T137,List.getD_eq_getElem?_getD,h]
theorem mem_rd {L : List S137} {m : Nat} (h : m < L.length) : rd_T137 L (m : Int) ∈ L:=by
 have e : rd_T137 L (m : Int) = L[m]:=by simp [rd_T137,List.getD_eq_getElem?_getD,h]
 rw [e]
 exact List.getElem_mem h
theorem drop_rdI {L : List Int} {m : Nat} (h : m < L.length) : L.drop m = rd L (m : Int) :: L.drop (m + 1):=by
 rw [List.drop_eq_getElem_cons h]
 simp [rd,List.getD_eq_getElem?_getD,h]
theorem mem_rdI {L : List Int} {m : Nat} (h : m < L.length) : rd L (m : Int) ∈ L:=by
 have e : rd L (m : Int) = L[m]:=by simp [rd,List.getD_eq_getElem?_getD,h]
 rw [e]
 exact List.getElem_mem h
structure SeatW (w wr : World) (b g0 g1 c0 c1 n : Nat) (vL : Value) (L : List S137) (l0 l1 : List S150) : Prop where
 r0 : Kd.R k150 150 wr w.heap.size (fun k_=>some k_ ≠ (Value.slice (some ⟨g1,0,none⟩) n c1).ownBlock) (.slice (some ⟨g0,0,none⟩) n c0) l0
 r1 : Kd.R k150 150 wr w.heap.size (fun k_=>some k_ ≠ (Value.slice (some ⟨g0,0,none⟩) n c0).ownBlock) (.slice (some ⟨g1,0,none⟩) n c1) l1
 s : Kd.S k137 137 wr w.heap.size (fun _=>True) vL L
 bx : wr.heap[b]? = some (.cells #[.slice (some ⟨g0,0,none⟩) n c0,.slice (some ⟨g1,0,none⟩) n c1] 179 (0,0))
 bl : Below w.heap.size w wr
theorem SeatW.below {w wr w' : World} {b g0 g1 c0 c1 n : Nat} {vL : Value} {L : List S137} {l0 l1 : List S150} (h : SeatW w wr b g0 g1 c0 c1 n vL L l0 l1) (hb : Below wr.heap.size wr w') : SeatW w w' b g0 g1 c0 c1 n vL L l0 l1 :=
 ⟨Kd.R_below h.r0 hb,Kd.R_below h.r1 hb,Kd.S_below h.s hb,(hb.block _ (blk_lt h.bx)).trans h.bx,h.bl.trans (hb.mono h.bl.size)⟩
theorem SeatW.put0 {w wr w' : World} {b g0 g1 c0 c1 n : Nat} {vL : Value} {L : List S137} {l0 l1 l0' : List S150} (h : SeatW w wr b g0 g1 c0 c1 n vL L l0 l1) (hr : Kd.R k150 150 w' w.heap.size (fun k_=>some k_ ≠ (Value.slice (some ⟨g1,0,none⟩) n c1).ownBlock) (.slice (some ⟨g0,0,none⟩) n c0) l0') (hg : wr.grownBy w' (some g0)) (hb : Below w.heap.size w w') : SeatW w w' b g0 g1 c0 c1 n vL L l0' l1 :=
 ⟨hr,Kd.R_grown h.r1 hg (fun k hk=>hk),Kd.S_over' (v:=.slice (some ⟨g0,0,none⟩) n c0) h.s (Kd.R_typed h.r0) (by decide) hg,blk_grown h.bx hg (Kd.R_ne h.r0 h.bx (by decide)),hb⟩
theorem SeatW.put1 {w wr w' : World} {b g0 g1 c0 c1 n : Nat} {vL : Value} {L : List S137} {l0 l1 l1' : List S150} (h : SeatW w wr b g0 g1 c0 c1 n vL L l0 l1) (hr : Kd.R k150 150 w' w.heap.size (fun k_=>some k_ ≠ (Value.slice (some ⟨g0,0,none⟩) n c0).ownBlock) (.slice (some ⟨g1,0,none⟩) n c1) l1') (hg : wr.grownBy w' (some g1)) (hb : Below w.heap.size w w') : SeatW w w' b g0 g1 c0 c1 n vL L l0 l1' :=
 ⟨Kd.R_grown h.r0 hg (fun k hk=>hk),hr,Kd.S_over' (v:=.slice (some ⟨g1,0,none⟩) n c1) h.s (Kd.R_typed h.r1) (by decide) hg,blk_grown h.bx hg (Kd.R_ne h.r1 h.bx (by decide)),hb⟩
theorem seat_cells {w : World} {base : Nat} {ok : Nat → Prop} {g n c : Nat} {la : List S150} (h : Kd.R k150 150 w base ok (.slice (some ⟨g,0,none⟩) n c) la) (i : Int) (h0 : 0 ≤ i) (h1 : i < n) :
  ∀ q u,([.int .i64 (rd_T150 la i).f0,.int .i64 (rd_T150 la i).f1] : List Value)[q]? = some u → w.cell? ⟨g,i.toNat * 2 + q,none⟩ = some u:=by
 obtain ⟨e,_,hC⟩:=Kd.R_reads' h
 obtain ⟨ad,eA,z0,z1⟩:=at_T150 hC i h0 (by omega)
 cases eA
 rw [add_plain] at z0 z1
 intro q u hq
 match q,hq with
 | 0,hq=>cases hq;exact z0
 | 1,hq=>cases hq;exact z1
set_option maxHeartbeats 8000000 in
set_option maxRecDepth 1000000 in
theorem slots_Seats.calls (H W : Int) (A2 : Option Addr) (c2 : Nat) (bl : List Bool) (A3 : Option Addr) (c3 : Nat) (ri : List Bool) (A4 : Option Addr) (c4 : Nat) (be : List Bool) (r1 r2 : List S150) (w : World)
  (h2 : Kd.C Kd.bool w A2 bl.length bl) (hc2 : bl.length ≤ c2) (h3 : Kd.C Kd.bool w A3 ri.length ri) (hc3 : ri.length ≤ c3) (h4 : Kd.C Kd.bool w A4 be.length be) (hc4 : be.length ≤ c4) (h : slots_Seats.f H W bl ri be = some (r1,r2)) :
  Calls Tryz.prog 93 #[.agg #[.int .i64 H,.int .i64 W,.slice A2 bl.length c2,.slice A3 ri.length c3,.slice A4 be.length c4]] w fun e w'=>∃ v0_ v1_ : Value,e = .returned (.tuple #[v0_,v1_]) ∧ Kd.R k150 150 w' w.heap.size (fun k_=>some k_ ≠ (v1_ : Value).ownBlock) v0_ r1 ∧ Kd.R k150 150 w' w.heap.size (fun k_=>some k_ ≠ (v0_ : Value).ownBlock) v1_ r2 ∧ Below w.heap.size w w':=by
 have hck:=grid_Check_eq H W bl ri be (bl.length + 3) (Nat.le_refl _)
 by_cases hok : gcheck H W bl ri be = 0
 ·have hg : GridIs H W A2 c2 bl A3 c3 ri A4 c4 be w:=⟨h2,hc2,h3,hc3,h4,hc4,hok⟩
  have hn : bl.length ≤ 256:=by have:=(mul_small (gcheck_ok hok).1 (gcheck_ok hok).2.1).2;have:=(gcheck_ok hok).2.2.1;omega
  rw [hok] at hck
  replace hn:=Lib.hid hn
  replace hok:=Lib.hid hok
  replace hck:=Lib.hid hck
  replace h:=Lib.hid h
  go_enter Tryz.func93,Tryz.ntmps93
  go_wp2_with (first | (go_at_call 59;refine (grid_Check.calls _ _ _ _ _ _ _ _ _ _ _ _ _ _ (Kd.C_below h2 (below_alloc (Below.refl _ _) _)) hc2 (Kd.C_below h3 (below_alloc (Below.refl _ _) _)) hc3 (Kd.C_below h4 (below_alloc (Below.refl _ _) _)) hc4 hck.out).mono ?_;rintro e w3 ⟨rfl,hb3⟩;have hBK0 : w3.heap[w.heap.size]? = some (.cells #[.int .i64 H,.int .i64 W,.slice A2 bl.length c2,.slice A3 ri.length c3,.slice A4 be.length c4] 39 (0,0)):=(hb3.block _ (by show _ < (w.heap.push _).size;simp)).trans (new_blk _ _);have hB0 : Below w.heap.size w w3:=(below_alloc (Below.refl _ _) _).trans (hb3.mono (below_alloc (Below.refl _ _) _).size);have hBK1 : (w3.alloc (.cells #[.slice none 0 0,.slice none 0 0] 179 (0,0))).heap[w.heap.size]? = _:=blk_alloc hBK0 _;have hbx1 : (w3.alloc (.cells #[.slice none 0 0,.slice none 0 0] 179 (0,0))).heap[w3.heap.size]? = _:=new_blk _ _;have hB1:=below_alloc (o:=.cells #[.slice none 0 0,.slice none 0 0] 179 (0,0)) hB0;have hz0:=(GridBox.of hBK1).2.2.1;have hlt3:=blk_lt hBK0))
  clear hz0 hb3 hBK0
  have hge : w.heap.size ≤ w3.heap.size:=hB0.size
  have hlt3 : Hid (w.heap.size < w3.heap.size):=Lib.hid hlt3
  replace hBK1:=Lib.hid hBK1
  replace hbx1:=Lib.hid hbx1
  replace hB1:=Lib.hid hB1
  skip
  go_loopw [16] (fun v16 wr=>∃ (m : Nat) (j : Int) (v0 v1 : Value),v16 = .int .i64 j ∧ Hid (j = m ∧ m ≤ bl.length) ∧ Hid (Kd.R k150 150 wr w.heap.size (fun k_=>True ∧ some k_ ≠ (v1 : Value).ownBlock) v0 (List.replicate m ⟨-1,0⟩)) ∧ Hid (Kd.R k150 150 wr w.heap.size (fun k_=>True ∧ some k_ ≠ (v0 : Value).ownBlock) v1 (List.replicate m ⟨-1,0⟩)) ∧ Hid (wr.heap[w.heap.size]? = some (.cells #[.int .i64 H,.int .i64 W,.slice A2 bl.length c2,.slice A3 ri.length c3,.slice A4 be.length c4] 39 (0,0))) ∧ Hid (wr.heap[w3.heap.size]? = some (.cells #[v0,v1] 179 (0,0))) ∧ Hid (Below w.heap.size w wr)) (fun v16 _=>bl.length - (intOf v16).toNat)
  case atStart=>exact ⟨0,0,_,_,rfl,Lib.hid ⟨rfl,Nat.zero_le _⟩,Lib.hid (Kd.R_nil _ _ _ _ _),Lib.hid (Kd.R_nil _ _ _ _ _),hBK1,hbx1,hB1⟩
  case round =>
   clear hBK1 hbx1 hB1
   obtain ⟨m,j,v0,v1,rfl,hm,hr0,hr1,hBK,hbx,hB⟩:=hrel
   by_cases hlt : m < bl.length
   ·have tlt : decide (j < (bl.length : Int)) = true:=decide_eq_true (by have:=hm.out;omega)
    have z0 : wr.cell? ⟨w3.heap.size,0,none⟩ = some v0:=(blk_cell hbx.out 0).trans rfl
    replace hlt:=Lib.hid hlt
    go_wp2_with (first | ((with_reducible refine gate_builtin (b:=.append) (xs:=#[.tmp 19,.tmp 21]) rfl ?_);go_must (at_builtin;refine Kd.R_append k150 (w0:=w) w.heap.size rfl (.tmp 19) (.tmp 21) 146 150 (.agg #[(.int .i64 0),(.int .i64 0)]) 16 rfl Tryz.underlying146 seat_info rfl (by decide) (by decide) v0 (List.replicate m (⟨-1,0⟩ : S150)) (⟨-1,0⟩ : S150) [.int .i64 (-1),.int .i64 0] (fun k_=>True ∧ some k_ ≠ (v1 : Value).ownBlock) (fun _=>False) rfl rfl ?aP (fun _ hk=>hk.elim) ?aF ?aO ?aB ?aS ?aL ?_;(case aP=>exact k150_mkM _ _ _ (⟨-1,0⟩ : S150));(case aF=>exact (fun k hk=>⟨trivial,fun e=>by have:=Kd.R_lt hr1.out k e.symm;omega⟩));(case aO=>exact hr0.out);(case aB=>exact hB.out);(case aS=>exact (hB.out).size);(case aL=>rw [List.length_replicate];have:=hm.out;have:=hn.out;omega);intro v4 w4 ho hb hg4 hat;obtain ⟨A4_,n4_,k4_,rfl⟩:=R_slice3 ho;have hbx4:=Lib.hid (blk_grown hbx.out hg4 (Kd.R_ne hr0.out hbx.out (by decide)));have hBK4:=Lib.hid (blk_grown hBK.out hg4 (Kd.R_ne hr0.out hBK.out (by decide)));have y0 : w4.cell? ⟨w3.heap.size,0,none⟩ = some v0:=(blk_cell hbx4.out 0).trans rfl;have y1 : w4.cell? ⟨w3.heap.size,1,none⟩ = some v1:=(blk_cell hbx4.out 1).trans rfl;have q0:=blk_frozen hbx4.out 0;have q1:=blk_frozen hbx4.out 1;have hr4:=Lib.hid (Kd.R_set ho hbx4.out (by decide) 0 (.slice A4_ n4_ k4_));have hr14:=Lib.hid (Kd.R_set (Kd.R_after hr1.out hg4 hat) hbx4.out (by decide) 0 (.slice A4_ n4_ k4_));have hbx5:=Lib.hid (blk_put (cs':=#[.slice A4_ n4_ k4_,v1]) hbx4.out 0 (.slice A4_ n4_ k4_) rfl);have hBK5:=Lib.hid (blk_far hBK4.out (p:=⟨w3.heap.size,0,none⟩) (by show w.heap.size ≠ w3.heap.size;have:=hlt3.out;omega) (.slice A4_ n4_ k4_));have hB4:=Lib.hid (below_set (j:=0) (v:=.slice A4_ n4_ k4_) hb hge);clear hb hg4 hat ho)) | ((with_reducible refine gate_builtin (b:=.append) (xs:=#[.tmp 25,.tmp 27]) rfl ?_);go_must (at_builtin;refine R_append_at k150 (w0:=w) w.heap.size w4.heap.size (by simp) (by rfl) (.tmp 25) (.tmp 27) 146 150 (.agg #[(.int .i64 0),(.int .i64 0)]) 16 rfl Tryz.underlying146 seat_info rfl (by decide) (by decide) v1 (List.replicate m (⟨-1,0⟩ : S150)) (⟨-1,0⟩ : S150) [.int .i64 (-1),.int .i64 0] (fun k_=>True ∧ some k_ ≠ (Value.slice A4_ n4_ k4_).ownBlock) (fun _=>False) rfl rfl ?aP (fun _ hk=>hk.elim) ?aF ?aO ?aB ?aS ?aL ?_;(case aP=>exact k150_mkM _ _ _ (⟨-1,0⟩ : S150));(case aF=>exact (fun k hk=>⟨trivial,fun e=>by have:=Kd.R_lt hr4.out k e.symm;omega⟩));(case aO=>exact hr14.out);(case aB=>exact hB4.out);(case aS=>exact (hB4.out).size);(case aL=>rw [List.length_replicate];have:=hm.out;have:=hn.out;omega);intro v6 w6 ho6 hb6 hg6 hat6;obtain ⟨A6_,n6_,k6_,rfl⟩:=R_slice3 ho6;have hbx6:=Lib.hid (blk_grown hbx5.out hg6 (Kd.R_ne hr14.out hbx5.out (by decide)));have hBK6:=Lib.hid (blk_grown hBK5.out hg6 (Kd.R_ne hr14.out hBK5.out (by decide)));have x0 : w6.cell? ⟨w3.heap.size,0,none⟩ = some (.slice A4_ n4_ k4_):=(blk_cell hbx6.out 0).trans rfl;have x1 : w6.cell? ⟨w3.heap.size,1,none⟩ = some v1:=(blk_cell hbx6.out 1).trans rfl;have p0:=blk_frozen hbx6.out 0;have p1:=blk_frozen hbx6.out 1;have hr6:=Lib.hid (Kd.R_set (Kd.R_after hr4.out hg6 hat6) hbx6.out (by decide) 1 (.slice A6_ n6_ k6_));have hr16:=Lib.hid (Kd.R_set ho6 hbx6.out (by decide) 1 (.slice A6_ n6_ k6_));have hbx7:=Lib.hid (blk_put (cs':=#[.slice A4_ n4_ k4_,.slice A6_ n6_ k6_]) hbx6.out 1 (.slice A6_ n6_ k6_) rfl);have hBK7:=Lib.hid (blk_far hBK6.out (p:=⟨w3.heap.size,1,none⟩) (by show w.heap.size ≠ w3.heap.size;have:=hlt3.out;omega) (.slice A6_ n6_ k6_));have hB7:=Lib.hid (below_set (j:=1) (v:=.slice A6_ n6_ k6_) hb6 hge);clear hb6 hg6 hat6 ho6)))
    obtain ⟨j2,hj2⟩ : ∃ j2,wrap64 (j + 1) = j2:=⟨_,rfl⟩
    rw [hj2]
    rw [w64 (by have:=hm.out;have:=hn.out;omega) (by have:=hm.out;have:=hn.out;omega)] at hj2
    refine ⟨⟨m + 1,j2,_,_,rfl,Lib.hid ⟨by have:=hm.out;omega,hlt.out⟩,?_,?_,hBK7,hbx7,hB7⟩,?_⟩
    ·rw [List.replicate_succ'];exact hr6
    ·rw [List.replicate_succ'];exact hr16
    ·simp only [intOf];have:=hm.out;have:=hlt.out;omega
   ·have tlt : decide (j < (bl.length : Int)) = false:=decide_eq_false (by have:=hm.out;omega)
    have hmb : m = bl.length:=by have:=hm.out;omega
    subst hmb
    have hn1 : 0 < bl.length:=by have:=(mul_small (gcheck_ok hok.out).1 (gcheck_ok hok.out).2.1).1;have:=(gcheck_ok hok.out).2.2.1;omega
    obtain ⟨g0,c0,rfl⟩:=R_form_n hr0.out (List.length_replicate) hn1
    obtain ⟨g1,c1,rfl⟩:=R_form_n hr1.out (List.length_replicate) hn1
    have hLf:=slotsOf_facts hok.out
    obtain ⟨L,hL⟩ : ∃ L,slotsOf H W bl ri be = L:=⟨_,rfl⟩
    have hLs : slots_List.f H W bl ri be = some L:=by unfold slots_List.f;rw [hL]
    have hfin : seatS (L.drop 0) 0 (List.replicate bl.length ⟨-1,0⟩,List.replicate bl.length ⟨-1,0⟩) = (r1,r2):=by
     have:=h.out
     unfold slots_Seats.f seatsOf at this
     rw [if_pos hok.out,hL] at this
     exact Option.some.inj this
    rw [hL] at hLf
    replace hL:=Lib.hid hL
    replace hLs:=Lib.hid hLs
    replace hfin:=Lib.hid hfin
    replace hLf:=Lib.hid hLf
    clear hlt
    replace hn1:=Lib.hid hn1
    have hb0:=(GridBox.of hBK.out).1
    have hb1:=(GridBox.of hBK.out).2.1
    have hb2:=(GridBox.of hBK.out).2.2.1
    have hb3:=(GridBox.of hBK.out).2.2.2.1
    have hb4:=(GridBox.of hBK.out).2.2.2.2
    go_wp2_with (go_at_call 61;go_loud (refine (slots_List.calls _ _ _ _ _ _ _ _ _ _ _ _ _ (Kd.C_below h2 hB.out) hc2 (Kd.C_below h3 hB.out) hc3 (Kd.C_below h4 hB.out) hc4 hLs.out).mono ?_;rintro e w5 ⟨vL,rfl,hLr,hb5⟩;obtain ⟨AL,cL,rfl⟩:=Kd.S_slice hLr))
    have hSW0 : SeatW w w5 w3.heap.size g0 g1 c0 c1 bl.length (.slice AL L.length cL) L (List.replicate bl.length ⟨-1,0⟩) (List.replicate bl.length ⟨-1,0⟩) :=
     ⟨Kd.R_below (Kd.R_mono hr0.out (fun _ hk=>hk.2)) hb5,Kd.R_below (Kd.R_mono hr1.out (fun _ hk=>hk.2)) hb5,Kd.S_lower hLr hB.out.size,(hb5.block _ (blk_lt hbx.out)).trans hbx.out,hB.out.trans (hb5.mono hB.out.size)⟩
    replace hSW0:=Lib.hid hSW0
    clear hb0 hb1 hb2 hb3 hb4 hr0 hr1 hBK hbx hB hb5 hLr
    go_loopw [34] (fun v34 wr=>∃ (m : Nat) (j : Int) (l0 l1 : List S150),v34 = .int .i64 j ∧ Hid (j = m ∧ m ≤ L.length) ∧ Hid (seatS (L.drop m) m (l0,l1) = (r1,r2)) ∧ Hid (l0.length = bl.length ∧ l1.length = bl.length) ∧ Hid (SeatW w wr w3.heap.size g0 g1 c0 c1 bl.length (.slice AL L.length cL) L l0 l1)) (fun v34 _=>L.length - (intOf v34).toNat)
    case atStart=>exact ⟨0,0,_,_,rfl,Lib.hid ⟨rfl,Nat.zero_le _⟩,hfin,Lib.hid ⟨List.length_replicate,List.length_replicate⟩,hSW0⟩
    case round =>
     clear hSW0 hfin
     obtain ⟨m,j,l0,l1,rfl,hj,hss,hll,hSW⟩:=hrel
     by_cases hlt : m < L.length
     ·have tlt : decide (j < (L.length : Int)) = true:=decide_eq_true (by have:=hj.out;omega)
      have hj0 : 0 ≤ j:=by have:=hj.out;omega
      have hj1 : j < (L.length : Int):=by have:=hj.out;omega
      obtain ⟨ad,ecs,eA,zz⟩ : ∃ (ad : Addr) (cs : List Value),AL = some ad ∧ cs.length = 3 ∧ Kd.M k137 wr w.heap.size (fun _=>True) (rd_T137 L j) cs ∧ ∀ q u,cs[q]? = some u → wr.cell? (ad.add (j.toNat * 3 + q)) = some u:=by
       cases AL with
       | none=>have:=(Kd.S_reads' hSW.out.s).2.2.2.2 (by omega);obtain ⟨ad,e,_⟩:=this;cases e
       | some ad=>obtain ⟨c,h1,h2,h3⟩:=Kd.S_get hSW.out.s z137 j hj0 hj1;exact ⟨ad,c,rfl,h1,k137.M_mono (fun _ _=>trivial) h2,h3⟩
      subst eA
      obtain ⟨hcl,hM,hcc⟩:=zz
      obtain ⟨v2,rfl,hRc⟩:=k137_openM hM
      obtain ⟨A2,c2',rfl⟩:=Kd.R_slice hRc
      have z0 : wr.cell? (ad.add (j.toNat * 3)) = some (.int .i64 (rd_T137 L j).f0):=hcc 0 _ rfl
      have z1 : wr.cell? ⟨(ad.add (j.toNat * 3)).block,(ad.add (j.toNat * 3)).off + 1,none⟩ = some (.bool (rd_T137 L j).f1):=by rw [← add_field _ _ 1 (by omega)];exact hcc 1 _ rfl
      have z2 : wr.cell? ⟨(ad.add (j.toNat * 3)).block,(ad.add (j.toNat * 3)).off + 2,none⟩ = some (.slice A2 (rd_T137 L j).f2.length c2'):=by rw [← add_field _ _ 2 (by omega)];exact hcc 2 _ rfl
      have hjm : rd_T137 L j ∈ L:=by rw [hj.out.1];exact mem_rd hlt
      replace hjm:=Lib.hid hjm
      replace hRc:=Lib.hid hRc
      clear hcl hM hcc
      replace hlt:=Lib.hid hlt
      cases hdn : (rd_T137 L j).f1 with
      | false =>
       rw [hdn] at z1
       replace hdn:=Lib.hid hdn
       go_wp2
       go_hide hQ
       go_loopw [44] (fun v44 wi=>∃ (k : Nat) (q : Int) (la : List S150),v44 = .int .i64 q ∧ Hid (q = k ∧ k ≤ (rd_T137 L j).f2.length) ∧ Hid (seatCells (j : Int) ((rd_T137 L j).f2.drop k) k la = seatCells (j : Int) (rd_T137 L j).f2 0 l0) ∧ Hid (la.length = bl.length) ∧ Hid (Kd.R (Kd.int .i64) 3 wi w.heap.size (fun _=>True) (.slice A2 (rd_T137 L j).f2.length c2') (rd_T137 L j).f2) ∧ Hid (SeatW w wi w3.heap.size g0 g1 c0 c1 bl.length (.slice (some ad) L.length cL) L la l1)) (fun v44 _=>(rd_T137 L j).f2.length - (intOf v44).toNat)
       case atStart=>exact ⟨0,0,l0,rfl,Lib.hid ⟨rfl,Nat.zero_le _⟩,Lib.hid (by rw [List.drop_zero]),Lib.hid hll.out.1,Lib.hid (Kd.R_alloc hRc.out _),Lib.hid (hSW.out.below (below_alloc (Below.refl _ _) _))⟩
       case round =>
        obtain ⟨k,q,la,rfl,hk,hsc,hla,hRi,hSi⟩:=hrel
        by_cases hkl : k < (rd_T137 L j).f2.length
        ·have tk : decide (q < ((rd_T137 L j).f2.length : Int)) = true:=decide_eq_true (by have:=hk.out;omega)
         have hq0 : 0 ≤ q:=by have:=hk.out;omega
         have hq1 : q < ((rd_T137 L j).f2.length : Int):=by have:=hk.out;omega
         obtain ⟨adc,eA,zc⟩:=Kd.at_int (Kd.R_reads' hRi.out).2.2 q hq0 hq1
         cases eA
         have y0 : wr.cell? ⟨w3.heap.size,0,none⟩ = some (.slice (some ⟨g0,0,none⟩) bl.length c0):=(blk_cell hSi.out.bx 0).trans rfl
         have y1 : wr.cell? ⟨w3.heap.size,1,none⟩ = some (.slice (some ⟨g1,0,none⟩) bl.length c1):=(blk_cell hSi.out.bx 1).trans rfl
         have hci : 0 ≤ rd (rd_T137 L j).f2 q ∧ rd (rd_T137 L j).f2 q < bl.length:=by
          rw [hk.out.1];exact (hLf.out.2 _ hjm.out).2 _ (mem_rdI hkl)
         obtain ⟨ci,hcid⟩ : ∃ ci,rd (rd_T137 L j).f2 q = ci:=⟨_,rfl⟩
         rw [hcid] at zc hci
         obtain ⟨hci0,hci1⟩:=hci
         have tc0 : decide (0 ≤ ci) = true:=decide_eq_true hci0
         have tc1 : decide (ci < (bl.length : Int)) = true:=decide_eq_true hci1
         replace hcid:=Lib.hid hcid
         replace hkl:=Lib.hid hkl
         have hcc:=seat_cells hSi.out.r0 ci hci0 hci1
         replace hcc:=Lib.hid hcc
         go_wp2_with (((with_reducible refine gate_ (.store 150 (.tmp 56) (.tmp 55)) rfl ?_);go_must (refine Kd.R_store k150 (w0:=w) w.heap.size (by rfl) (by rfl) 150 (.tmp 56) (.tmp 55) (by rfl) 150 ci 0 la (⟨j,q⟩ : S150) (.agg #[.int .i64 j,.int .i64 q]) [.int .i64 j,.int .i64 q] [.int .i64 (rd_T150 la ci).f0,.int .i64 (rd_T150 la ci).f1] (fun k_=>some k_ ≠ (Value.slice (some ⟨g1,0,none⟩) bl.length c1).ownBlock) (fun _=>False) (o':=ci.toNat * 2) (by rfl) (by rfl) (by rfl) (by rfl) (by kernel_rfl) (by simp [Value.oneCell']) hSi.out.r0 hci0 hci1 (by rfl) hcc.out (Nat.le_refl 2) (k150_mkM _ _ _ (⟨j,q⟩ : S150)) (fun _ hk=>hk.elim) hSi.out.bl ?_;intro w7 hr7 hb7 hg7;have hS7:=Lib.hid (hSi.out.put0 hr7 hg7 hb7);have hc7:=Lib.hid (Kd.R_over' (v:=.slice (some ⟨g0,0,none⟩) bl.length c0) hRi.out (Kd.R_typed hSi.out.r0) (by decide) hg7);clear hr7 hb7 hg7)))
         obtain ⟨q2,hq2⟩ : ∃ q2,wrap64 (q + 1) = q2:=⟨_,rfl⟩
         rw [hq2]
         rw [w64 (by omega) (by have:=(hLf.out.2 _ hjm.out).1;have:=hn.out;omega)] at hq2
         refine ⟨⟨k + 1,q2,_,rfl,Lib.hid ⟨by have:=hk.out;omega,hkl.out⟩,Lib.hid ?_,Lib.hid ?_,hc7,hS7⟩,?_⟩
         ·rw [← hsc.out,drop_rdI hkl.out,← hk.out.1,hcid.out]
          simp only [seatCells]
          rw [← hk.out.1]
         ·rw [List.length_set];exact hla.out
         ·simp only [intOf];have:=hk.out;have:=hkl.out;omega
        ·have tk : decide (q < ((rd_T137 L j).f2.length : Int)) = false:=decide_eq_false (by have:=hk.out;omega)
         have hkE : k = (rd_T137 L j).f2.length:=by have:=hk.out;omega
         have hsE:=hsc.out
         rw [hkE,List.drop_length] at hsE
         simp only [seatCells] at hsE
         replace hsE:=Lib.hid hsE
         go_wp2
         subst hQ
         go_wp2
         obtain ⟨j2,hj2⟩ : ∃ j2,wrap64 (j + 1) = j2:=⟨_,rfl⟩
         rw [hj2]
         rw [w64 (by omega) (by have:=hLf.out.1;have:=hn.out;omega)] at hj2
         refine ⟨⟨m + 1,j2,_,_,rfl,Lib.hid ⟨by have:=hj.out;omega,hlt.out⟩,Lib.hid ?_,Lib.hid ⟨hla.out,hll.out.2⟩,hSi⟩,?_⟩
         ·rw [← hss.out,drop_rd hlt.out,← hj.out.1]
          simp only [seatS]
          rw [hdn.out,hsE.out,hj.out.1]
          rfl
         ·simp only [intOf];have:=hj.out;have:=hlt.out;omega
      | true =>
       rw [hdn] at z1
       replace hdn:=Lib.hid hdn
       go_wp2
       go_hide hQ
       go_loopw [44] (fun v44 wi=>∃ (k : Nat) (q : Int) (la : List S150),v44 = .int .i64 q ∧ Hid (q = k ∧ k ≤ (rd_T137 L j).f2.length) ∧ Hid (seatCells (j : Int) ((rd_T137 L j).f2.drop k) k la = seatCells (j : Int) (rd_T137 L j).f2 0 l1) ∧ Hid (la.length = bl.length) ∧ Hid (Kd.R (Kd.int .i64) 3 wi w.heap.size (fun _=>True) (.slice A2 (rd_T137 L j).f2.length c2') (rd_T137 L j).f2) ∧ Hid (SeatW w wi w3.heap.size g0 g1 c0 c1 bl.length (.slice (some ad) L.length cL) L l0 la)) (fun v44 _=>(rd_T137 L j).f2.length - (intOf v44).toNat)
       case atStart=>exact ⟨0,0,l1,rfl,Lib.hid ⟨rfl,Nat.zero_le _⟩,Lib.hid (by rw [List.drop_zero]),Lib.hid hll.out.2,Lib.hid (Kd.R_alloc hRc.out _),Lib.hid (hSW.out.below (below_alloc (Below.refl _ _) _))⟩
       case round =>
        obtain ⟨k,q,la,rfl,hk,hsc,hla,hRi,hSi⟩:=hrel
        by_cases hkl : k < (rd_T137 L j).f2.length
        ·have tk : decide (q < ((rd_T137 L j).f2.length : Int)) = true:=decide_eq_true (by have:=hk.out;omega)
         have hq0 : 0 ≤ q:=by have:=hk.out;omega
         have hq1 : q < ((rd_T137 L j).f2.length : Int):=by have:=hk.out;omega
         obtain ⟨adc,eA,zc⟩:=Kd.at_int (Kd.R_reads' hRi.out).2.2 q hq0 hq1
         cases eA
         have y0 : wr.cell? ⟨w3.heap.size,0,none⟩ = some (.slice (some ⟨g0,0,none⟩) bl.length c0):=(blk_cell hSi.out.bx 0).trans rfl
         have y1 : wr.cell? ⟨w3.heap.size,1,none⟩ = some (.slice (some ⟨g1,0,none⟩) bl.length c1):=(blk_cell hSi.out.bx 1).trans rfl
         have hci : 0 ≤ rd (rd_T137 L j).f2 q ∧ rd (rd_T137 L j).f2 q < bl.length:=by
          rw [hk.out.1];exact (hLf.out.2 _ hjm.out).2 _ (mem_rdI hkl)
         obtain ⟨ci,hcid⟩ : ∃ ci,rd (rd_T137 L j).f2 q = ci:=⟨_,rfl⟩
         rw [hcid] at zc hci
         obtain ⟨hci0,hci1⟩:=hci
         have tc0 : decide (0 ≤ ci) = true:=decide_eq_true hci0
         have tc1 : decide (ci < (bl.length : Int)) = true:=decide_eq_true hci1
         replace hcid:=Lib.hid hcid
         replace hkl:=Lib.hid hkl
         have hcc:=seat_cells hSi.out.r1 ci hci0 hci1
         replace hcc:=Lib.hid hcc
         go_wp2_with (((with_reducible refine gate_ (.store 150 (.tmp 56) (.tmp 55)) rfl ?_);go_must (refine Kd.R_store k150 (w0:=w) w.heap.size (by rfl) (by rfl) 150 (.tmp 56) (.tmp 55) (by rfl) 150 ci 0 la (⟨j,q⟩ : S150) (.agg #[.int .i64 j,.int .i64 q]) [.int .i64 j,.int .i64 q] [.int .i64 (rd_T150 la ci).f0,.int .i64 (rd_T150 la ci).f1] (fun k_=>some k_ ≠ (Value.slice (some ⟨g0,0,none⟩) bl.length c0).ownBlock) (fun _=>False) (o':=ci.toNat * 2) (by rfl) (by rfl) (by rfl) (by rfl) (by kernel_rfl) (by simp [Value.oneCell']) hSi.out.r1 hci0 hci1 (by rfl) hcc.out (Nat.le_refl 2) (k150_mkM _ _ _ (⟨j,q⟩ : S150)) (fun _ hk=>hk.elim) hSi.out.bl ?_;intro w7 hr7 hb7 hg7;have hS7:=Lib.hid (hSi.out.put1 hr7 hg7 hb7);have hc7:=Lib.hid (Kd.R_over' (v:=.slice (some ⟨g1,0,none⟩) bl.length c1) hRi.out (Kd.R_typed hSi.out.r1) (by decide) hg7);clear hr7 hb7 hg7)))
         obtain ⟨q2,hq2⟩ : ∃ q2,wrap64 (q + 1) = q2:=⟨_,rfl⟩
         rw [hq2]
         rw [w64 (by omega) (by have:=(hLf.out.2 _ hjm.out).1;have:=hn.out;omega)] at hq2
         refine ⟨⟨k + 1,q2,_,rfl,Lib.hid ⟨by have:=hk.out;omega,hkl.out⟩,Lib.hid ?_,Lib.hid ?_,hc7,hS7⟩,?_⟩
         ·rw [← hsc.out,drop_rdI hkl.out,← hk.out.1,hcid.out]
          simp only [seatCells]
          rw [← hk.out.1]
         ·rw [List.length_set];exact hla.out
         ·simp only [intOf];have:=hk.out;have:=hkl.out;omega
        ·have tk : decide (q < ((rd_T137 L j).f2.length : Int)) = false:=decide_eq_false (by have:=hk.out;omega)
         have hkE : k = (rd_T137 L j).f2.length:=by have:=hk.out;omega
         have hsE:=hsc.out
         rw [hkE,List.drop_length] at hsE
         simp only [seatCells] at hsE
         replace hsE:=Lib.hid hsE
         go_wp2
         subst hQ
         go_wp2
         obtain ⟨j2,hj2⟩ : ∃ j2,wrap64 (j + 1) = j2:=⟨_,rfl⟩
         rw [hj2]
         rw [w64 (by omega) (by have:=hLf.out.1;have:=hn.out;omega)] at hj2
         refine ⟨⟨m + 1,j2,_,_,rfl,Lib.hid ⟨by have:=hj.out;omega,hlt.out⟩,Lib.hid ?_,Lib.hid ⟨hll.out.1,hla.out⟩,hSi⟩,?_⟩
         ·rw [← hss.out,drop_rd hlt.out,← hj.out.1]
          simp only [seatS]
          rw [hdn.out,hsE.out,hj.out.1]
          rfl
         ·simp only [intOf];have:=hj.out;have:=hlt.out;omega
     ·have tlt : decide (j < (L.length : Int)) = false:=decide_eq_false (by have:=hj.out;omega)
      have hmE : m = L.length:=by have:=hj.out;omega
      have hsE:=hss.out
      rw [hmE,List.drop_length] at hsE
      simp only [seatS,Prod.mk.injEq] at hsE
      obtain ⟨rfl,rfl⟩:=hsE
      have y0 : wr.cell? ⟨w3.heap.size,0,none⟩ = some (.slice (some ⟨g0,0,none⟩) bl.length c0):=(blk_cell hSW.out.bx 0).trans rfl
      have y1 : wr.cell? ⟨w3.heap.size,1,none⟩ = some (.slice (some ⟨g1,0,none⟩) bl.length c1):=(blk_cell hSW.out.bx 1).trans rfl
      go_wp2
      go_quiet (fail)
      go_wp2
      go_ret2
      exact ⟨_,_,rfl,Kd.R_drewN hSW.out.r0 _,Kd.R_drewN hSW.out.r1 _,pw_below_drewN hSW.out.bl _⟩
 ·have hrr : r1 = [] ∧ r2 = []:=by
   unfold slots_Seats.f seatsOf at h
   rw [if_neg hok] at h
   simp only [Option.some.injEq,Prod.mk.injEq] at h
   exact ⟨h.1.symm,h.2.symm⟩
  obtain ⟨rfl,rfl⟩:=hrr
  clear h
  obtain ⟨er,her⟩ : ∃ e,gcheck H W bl ri be = e:=⟨_,rfl⟩
  rw [her] at hck hok
  have hne : (er != 0) = true:=bne_iff_ne.2 hok
  replace hck:=Lib.hid hck
  replace her:=Lib.hid her
  go_enter Tryz.func93,Tryz.ntmps93
  go_wp2_with (first | (go_at_call 59;refine (grid_Check.calls _ _ _ _ _ _ _ _ _ _ _ _ _ _ (Kd.C_below h2 (below_alloc (Below.refl _ _) _)) hc2 (Kd.C_below h3 (below_alloc (Below.refl _ _) _)) hc3 (Kd.C_below h4 (below_alloc (Below.refl _ _) _)) hc4 hck.out).mono ?_;rintro e w3 ⟨rfl,hb3⟩))
  go_ret2
  exact ⟨_,_,rfl,Kd.R_nil _ _ _ _ _,Kd.R_nil _ _ _ _ _,(below_alloc (Below.refl _ _) _).trans (hb3.mono (below_alloc (Below.refl _ _) _).size)⟩
end Go.Proofs.YtjopbfidjapmbaaGreatDoor.Q
end
section
namespace Go.Proofs.YtjopbfidjapmbaaGreatDoor.Q
open Go.RowKit Go.Proofs.YtjopbfidjapmbaaGreatDoorW.PrintWords Go.Proofs.YtjopbfidjapmbaaGreatDoorW.PrintLast Go.Proofs.YtjopbfidjapmbaaGreatDoorW.PrintMore
attribute [local go_sem] max2_int min2_int max_two min_two max_three min_three max_four min_four
set_option linter.unusedVariables false
set_option linter.unusedSimpArgs false
open Go.Proofs.YtjopbfidjapmbaaGreatDoorS
theorem at_ops0 {α : Type} (a : α) (l : List α) : (List.toArray (a :: l))[0]? = some a:=by simp
theorem at_ops1 {α : Type} (a b : α) (l : List α) : (List.toArray (a :: b :: l))[1]? = some b:=by simp
theorem at_ops2 {α : Type} (a b c : α) (l : List α) : (List.toArray (a :: b :: c :: l))[2]? = some c:=by simp
theorem at_ops3 {α : Type} (a b c d : α) (l : List α) : (List.toArray (a :: b :: c :: d :: l))[3]? = some d:=by simp
theorem at_ops4 {α : Type} (a b c d e : α) (l : List α) : (List.toArray (a :: b :: c :: d :: e :: l))[4]? = some e:=by simp
theorem at_ops5 {α : Type} (a b c d e f : α) (l : List α) : (List.toArray (a :: b :: c :: d :: e :: f :: l))[5]? = some f:=by simp
theorem at_ops6 {α : Type} (a b c d e f g : α) (l : List α) : (List.toArray (a :: b :: c :: d :: e :: f :: g :: l))[6]? = some g:=by simp
theorem at_ops7 {α : Type} (a b c d e f g h : α) (l : List α) : (List.toArray (a :: b :: c :: d :: e :: f :: g :: h :: l))[7]? = some h:=by simp
theorem at_ops8 {α : Type} (a b c d e f g h i : α) (l : List α) : (List.toArray (a :: b :: c :: d :: e :: f :: g :: h :: i :: l))[8]? = some i:=by simp
def SeatOk (n m : Nat) (x : S150) : Prop:=-1 ≤ x.f0 ∧ x.f0 < n ∧ 0 ≤ x.f1 ∧ x.f1 ≤ m
theorem seatCells_ok {n m : Nat} {s : Int} (hs : 0 ≤ s ∧ s < n) : ∀ (cs : List Int) (k : Nat) (l : List S150),k + cs.length ≤ m → (∀ x ∈ l,SeatOk n m x) → ∀ x ∈ seatCells s cs k l,SeatOk n m x
 | [],_,_,_,h=>h
 | i :: is,k,l,hk,h=>by
  simp only [seatCells]
  simp only [List.length_cons] at hk
  refine seatCells_ok hs is (k + 1) _ (by omega) (fun x hx=>?_)
  rcases List.mem_or_eq_of_mem_set hx with hx | rfl
  ·exact h x hx
  ·exact ⟨by simp only;omega,hs.2,Int.natCast_nonneg _,by simp only;omega⟩
theorem seatS_ok {n m : Nat} : ∀ (L : List S137) (s : Nat) (p : List S150 × List S150),s + L.length ≤ n → (∀ x ∈ L,x.f2.length ≤ m) → (∀ x ∈ p.1,SeatOk n m x) → (∀ x ∈ p.2,SeatOk n m x) →
  (∀ x ∈ (seatS L s p).1,SeatOk n m x) ∧ (∀ x ∈ (seatS L s p).2,SeatOk n m x) ∧ (seatS L s p).1.length = p.1.length ∧ (seatS L s p).2.length = p.2.length
 | [],_,_,_,_,h0,h1=>⟨h0,h1,rfl,rfl⟩
 | y :: ys,s,p,hs,hl,h0,h1=>by
  simp only [seatS]
  simp only [List.length_cons] at hs
  have hy:=hl y List.mem_cons_self
  have hl2 : ∀ x ∈ ys,x.f2.length ≤ m:=fun x hx=>hl x (List.mem_cons_of_mem _ hx)
  cases y.f1 with
  | true =>
   have:=seatS_ok ys (s + 1) (p.1,seatCells (s : Int) y.f2 0 p.2) (by omega) hl2 h0 (seatCells_ok ⟨by omega,by omega⟩ _ _ _ (by omega) h1)
   exact ⟨this.1,this.2.1,this.2.2.1,by have h:=this.2.2.2;rw [seatCells_length] at h;exact h⟩
  | false =>
   have:=seatS_ok ys (s + 1) (seatCells (s : Int) y.f2 0 p.1,p.2) (by omega) hl2 (seatCells_ok ⟨by omega,by omega⟩ _ _ _ (by omega) h0) h1
   exact ⟨this.1,this.2.1,by have h:=this.2.2.1;rw [seatCells_length] at h;exact h,this.2.2.2⟩
theorem seatsOf_facts {H W : Int} {bl ri be : List Bool} (hc : gcheck H W bl ri be = 0) :
  (∀ x ∈ (seatsOf H W bl ri be).1,SeatOk (slotsOf H W bl ri be).length bl.length x) ∧ (∀ x ∈ (seatsOf H W bl ri be).2,SeatOk (slotsOf H W bl ri be).length bl.length x) ∧ (seatsOf H W bl ri be).1.length = bl.length ∧ (seatsOf H W bl ri be).2.length = bl.length:=by
 unfold seatsOf
 rw [if_pos hc]
 have h:=slotsOf_facts hc
 have h1 : ∀ x ∈ List.replicate bl.length (⟨-1,0⟩ : S150),SeatOk (slotsOf H W bl ri be).length bl.length x:=fun x hx=>by
  rw [List.eq_of_mem_replicate hx]
  exact ⟨Int.le_refl _,by simp only;omega,Int.le_refl _,by simp only;omega⟩
 have:=seatS_ok (slotsOf H W bl ri be) 0 (List.replicate bl.length ⟨-1,0⟩,List.replicate bl.length ⟨-1,0⟩) (by omega) (fun x hx=>(h.2 x hx).1) h1 h1
 simpa using this
theorem rd_seat {l : List S150} {i : Int} (h0 : 0 ≤ i) (h1 : i < l.length) : rd_T150 l i ∈ l:=by
 have e : rd_T150 l i = l[i.toNat]:=by simp [rd_T150,List.getD_eq_getElem?_getD,show i.toNat < l.length by omega]
 rw [e]
 exact List.getElem_mem _
def seatRow (H W : Int) (bl ri be : List Bool) (dn : Bool) : List S150:=if dn then (seatsOf H W bl ri be).2 else (seatsOf H W bl ri be).1
def stepSeat (H W : Int) (bl ri be : List Bool) (seat : S150) (at_ d : Int) : Int :=
 if seat.f0 < 0 then at_ else if 0 ≤ seat.f1 + d ∧ seat.f1 + d < (rd_T137 (slotsOf H W bl ri be) seat.f0).f2.length then rd (rd_T137 (slotsOf H W bl ri be) seat.f0).f2 (seat.f1 + d) else at_
def stepOf (H W : Int) (bl ri be : List Bool) (at_ : Int) (dn : Bool) (d : Int) : Int:=stepSeat H W bl ri be (rd_T150 (seatRow H W bl ri be dn) at_) at_ d
theorem slot_cells {W : World} {base : Nat} {ok : Nat → Prop} {v : Value} {L : List S137} (h : Kd.S k137 137 W base ok v L) (j : Int) (h0 : 0 ≤ j) (h1 : j < L.length) :
  ∃ ad c B k,v = .slice (some ad) L.length c ∧ W.cell? (ad.add (j.toNat * 3)) = some (.int .i64 (rd_T137 L j).f0) ∧ W.cell? ⟨(ad.add (j.toNat * 3)).block,(ad.add (j.toNat * 3)).off + 1,none⟩ = some (.bool (rd_T137 L j).f1) ∧ W.cell? ⟨(ad.add (j.toNat * 3)).block,(ad.add (j.toNat * 3)).off + 2,none⟩ = some (.slice B (rd_T137 L j).f2.length k) ∧ Kd.R (Kd.int .i64) 3 W base (fun _=>True) (.slice B (rd_T137 L j).f2.length k) (rd_T137 L j).f2:=by
 obtain ⟨AL,cL,rfl⟩:=Kd.S_slice h
 cases AL with
 | none=>have:=(Kd.S_reads' h).2.2.2.2 (by omega);obtain ⟨ad,e,_⟩:=this;cases e
 | some ad =>
  obtain ⟨c,hcl,h2,hcc⟩:=Kd.S_get h z137 j h0 h1
  have hM : k137.M W base (fun _=>True) (rd_T137 L j) c:=k137.M_mono (fun _ _=>trivial) h2
  obtain ⟨v2,rfl,hRc⟩:=k137_openM hM
  obtain ⟨B,k,rfl⟩:=Kd.R_slice hRc
  exact ⟨ad,cL,B,k,rfl,hcc 0 _ rfl,by rw [← add_field _ _ 1 (by omega)];exact hcc 1 _ rfl,by rw [← add_field _ _ 2 (by omega)];exact hcc 2 _ rfl,hRc⟩
set_option maxHeartbeats 8000000 in
set_option maxRecDepth 1000000 in
theorem sheet_step.calls (title : ByteArray) (H W : Int) (A2 : Option Addr) (c2 : Nat) (bl : List Bool) (A3 : Option Addr) (c3 : Nat) (ri : List Bool) (A4 : Option Addr) (c4 : Nat) (be : List Bool) (A5 : Option Addr) (n5 c5 : Nat) (A6 : Option Addr) (n6 c6 : Nat) (A7 : Option Addr) (n7 c7 : Nat) (A8 : Option Addr) (n8 c8 : Nat) (at_ : Int) (dn : Bool) (d : Int) (w : World)
  (hg : GridIs H W A2 c2 bl A3 c3 ri A4 c4 be w) (ha : 0 ≤ at_ ∧ at_ < bl.length) (hd : -1 ≤ d ∧ d ≤ 1) :
  Calls Tryz.prog 68 #[.agg #[.string title,.int .i64 H,.int .i64 W,.slice A2 bl.length c2,.slice A3 ri.length c3,.slice A4 be.length c4,.slice A5 n5 c5,.slice A6 n6 c6],.agg #[.slice A7 n7 c7,.slice A8 n8 c8,.int .i64 at_,.bool dn],.int .i64 d] w fun e w'=>e = .returned (.int .i64 (stepOf H W bl ri be at_ dn d)) ∧ Below w.heap.size w w':=by
 have hbl : bl.length ≤ 256:=by have:=(mul_small (gcheck_ok hg.ok).1 (gcheck_ok hg.ok).2.1).2;have:=(gcheck_ok hg.ok).2.2.1;omega
 have hsf:=seatsOf_facts hg.ok
 have hrow : (∀ x ∈ seatRow H W bl ri be dn,SeatOk (slotsOf H W bl ri be).length bl.length x) ∧ (seatRow H W bl ri be dn).length = bl.length:=by
  unfold seatRow
  cases dn
  ·exact ⟨hsf.1,hsf.2.2.1⟩
  ·exact ⟨hsf.2.1,hsf.2.2.2⟩
 have hok:=hrow.1 _ (rd_seat ha.1 (by rw [hrow.2];exact ha.2))
 have hS : slots_Seats.f H W bl ri be = some ((seatsOf H W bl ri be).1,(seatsOf H W bl ri be).2):=rfl
 replace hS:=Lib.hid hS
 replace hsf:=Lib.hid hsf
 replace hrow:=Lib.hid hrow
 replace hok:=Lib.hid hok
 replace hbl:=Lib.hid hbl
 obtain ⟨ha0,ha1⟩:=ha
 have hu27:=Tryz.underlying42
 have hu24:=Tryz.underlying39
 have hx:=box2 w (.cells #[.string title,.int .i64 H,.int .i64 W,.slice A2 bl.length c2,.slice A3 ri.length c3,.slice A4 be.length c4,.slice A5 n5 c5,.slice A6 n6 c6] 42) (.cells #[.slice A7 n7 c7,.slice A8 n8 c8,.int .i64 at_,.bool dn] 57)
 replace hx:=Lib.hid hx
 cases dn with
 | false =>
  obtain ⟨seat,hseat⟩ : ∃ x,rd_T150 (seatsOf H W bl ri be).1 at_ = x:=⟨_,rfl⟩
  have hres : stepOf H W bl ri be at_ false d = stepSeat H W bl ri be seat at_ d:=by rw [← hseat];rfl
  have hok : SeatOk (slotsOf H W bl ri be).length bl.length seat:=by rw [← hseat];exact hok.out
  obtain ⟨hk1,hk2,hk3,hk4⟩:=hok
  rw [hres]
  clear hres hok
  replace hseat:=Lib.hid hseat
  by_cases hneg : seat.f0 < 0
  ·have tn : decide (seat.f0 < 0) = true:=decide_eq_true hneg
   have hfin : stepSeat H W bl ri be seat at_ d = at_:=by unfold stepSeat;rw [if_pos hneg]
   rw [hfin]
   clear hfin
   go_enter Tryz.func68,Tryz.ntmps68
   go_wp2_with (go_at_call 93;go_loud (refine (slots_Seats.calls _ _ _ _ _ _ _ _ _ _ _ _ _ _ (Kd.C_below hg.h2 hx.out.2.2) hg.c2 (Kd.C_below hg.h3 hx.out.2.2) hg.c3 (Kd.C_below hg.h4 hx.out.2.2) hg.c4 hS.out).mono ?_;rintro e w3 ⟨v0,v1,rfl,hr0,hr1,hb3⟩;have hP:=blk_below hx.out.1 hb3;have hQ:=blk_below hx.out.2.1 hb3;have hB:=below_step hx.out.2.2 hb3;obtain ⟨p0,p1,p2,p3,p4,p5,p6,p7⟩:=cells8 hP;obtain ⟨q0,q1,q2,q3⟩:=cells4 hQ;have hz:=blk_lt hQ;obtain ⟨B0,k0,rfl⟩:=Kd.R_slice hr0;have hC0:=(Kd.R_reads' hr0).2.2;obtain ⟨ad,eA,y0,y1⟩:=at_T150 hC0 at_ ha0 (by have:=hsf.out.2.2.1;omega);cases eA;rw [hseat.out] at y0 y1;have hsf1:=hsf.out.2.2.1;rw [hsf1] at *;replace hP:=Lib.hid hP;replace hQ:=Lib.hid hQ;clear hr0 hr1 hb3 hC0))
   go_ret
   exact ⟨rfl,below_alloc hB _⟩
  ·have tn : decide (seat.f0 < 0) = false:=decide_eq_false hneg
   have hf0 : 0 ≤ seat.f0:=by omega
   obtain ⟨cs,hcs⟩ : ∃ x,(rd_T137 (slotsOf H W bl ri be) seat.f0).f2 = x:=⟨_,rfl⟩
   have hfin : stepSeat H W bl ri be seat at_ d = if 0 ≤ seat.f1 + d ∧ seat.f1 + d < cs.length then rd cs (seat.f1 + d) else at_:=by unfold stepSeat;rw [if_neg hneg,hcs]
   rw [hfin]
   clear hfin
   obtain ⟨L,hL⟩ : ∃ L,slotsOf H W bl ri be = L:=⟨_,rfl⟩
   have hLs : slots_List.f H W bl ri be = some L:=by unfold slots_List.f;rw [hL]
   rw [hL] at hcs hk2
   replace hcs:=Lib.hid hcs
   replace hLs:=Lib.hid hLs
   clear hL
   go_enter Tryz.func68,Tryz.ntmps68
   go_wp2_with (go_at_call 93;go_loud (refine (slots_Seats.calls _ _ _ _ _ _ _ _ _ _ _ _ _ _ (Kd.C_below hg.h2 hx.out.2.2) hg.c2 (Kd.C_below hg.h3 hx.out.2.2) hg.c3 (Kd.C_below hg.h4 hx.out.2.2) hg.c4 hS.out).mono ?_;rintro e w3 ⟨v0,v1,rfl,hr0,hr1,hb3⟩;have hP:=blk_below hx.out.1 hb3;have hQ:=blk_below hx.out.2.1 hb3;have hB:=below_step hx.out.2.2 hb3;obtain ⟨p0,p1,p2,p3,p4,p5,p6,p7⟩:=cells8 hP;obtain ⟨q0,q1,q2,q3⟩:=cells4 hQ;have hz:=blk_lt hQ;obtain ⟨B0,k0,rfl⟩:=Kd.R_slice hr0;have hC0:=(Kd.R_reads' hr0).2.2;obtain ⟨ad,eA,y0,y1⟩:=at_T150 hC0 at_ ha0 (by have:=hsf.out.2.2.1;omega);cases eA;rw [hseat.out] at y0 y1;have hsf1:=hsf.out.2.2.1;rw [hsf1] at *;replace hP:=Lib.hid hP;replace hQ:=Lib.hid hQ;clear hr0 hr1 hb3 hC0))
   have hP4:=blk_alloc hP.out (.cells #[.int .i64 seat.f0,.int .i64 seat.f1] 150)
   have hQ4:=blk_alloc hQ.out (.cells #[.int .i64 seat.f0,.int .i64 seat.f1] 150)
   have hR4:=blk_new w3 (.cells #[.int .i64 seat.f0,.int .i64 seat.f1] 150)
   have hB4:=below_alloc hB (.cells #[.int .i64 seat.f0,.int .i64 seat.f1] 150)
   generalize w3.alloc (.cells #[.int .i64 seat.f0,.int .i64 seat.f1] 150) = w4 at hP4 hQ4 hR4 hB4 ⊢
   clear y0 y1 p0 p1 p2 p3 p4 p5 p6 p7 q0 q1 q2 q3 hB hP hQ hx
   replace hP4:=Lib.hid hP4
   replace hQ4:=Lib.hid hQ4
   replace hR4:=Lib.hid hR4
   replace hB4:=Lib.hid hB4
   have hg4:=hg.below hB4.out
   obtain ⟨r0,r1⟩:=cells2 hR4.out
   obtain ⟨p0,p1,p2,p3,p4,p5,p6,p7⟩:=cells8 hP4.out
   refine wp_region_noPanic ?_
   refine wp_region_held_drew (S:=(fun w'=>w'.cell? ⟨w.heap.size,1,none⟩ = some (.int .i64 H) ∧ w'.cell? ⟨w.heap.size,2,none⟩ = some (.int .i64 W) ∧ w'.cell? ⟨w.heap.size,3,none⟩ = some (.slice A2 bl.length c2) ∧ w'.cell? ⟨w.heap.size,4,none⟩ = some (.slice A3 ri.length c3) ∧ w'.cell? ⟨w.heap.size,5,none⟩ = some (.slice A4 be.length c4) ∧ w'.cell? ⟨w3.heap.size,0,none⟩ = some (.int .i64 seat.f0))) (by kernel_rfl) ?s1 (fun hHeld=>?_)
   case s1=>((try dsimp only);go_keep)
   refine wpAnyH_take (i:=0) (oi:=?t2oi) (v:=?t2v) ?t2ho ?t2k1 ?t2k2 ?t2k3 (fun _ _ _ h=>h) (Or.inl ⟨?t2kw,?t2hy⟩) hHeld ?t2rest
   case t2ho=>exact at_ops0 _ _
   case t2k1=>kernel_rfl
   case t2k2=>kernel_rfl
   case t2k3=>kernel_rfl
   case t2kw=>rfl
   case t2hy=>(intro w9 hS9;(try dsimp only at hS9);go_simp;try with_reducible rfl)
   try simp only [Act.put,List.setIfInBounds_toArray,List.set_cons_zero,List.set_cons_succ]
   refine wpAnyH_take (i:=1) (oi:=?t3oi) (v:=?t3v) ?t3ho ?t3k1 ?t3k2 ?t3k3 (fun _ _ _ h=>h) (Or.inl ⟨?t3kw,?t3hy⟩) hHeld ?t3rest
   case t3ho=>exact at_ops1 _ _ _
   case t3k1=>kernel_rfl
   case t3k2=>kernel_rfl
   case t3k3=>kernel_rfl
   case t3kw=>rfl
   case t3hy=>(intro w9 hS9;(try dsimp only at hS9);go_simp;try with_reducible rfl)
   try simp only [Act.put,List.setIfInBounds_toArray,List.set_cons_zero,List.set_cons_succ]
   refine wpAnyH_take (i:=3) (oi:=?t4oi) (v:=?t4v) ?t4ho ?t4k1 ?t4k2 ?t4k3 (fun _ _ _ h=>h) (Or.inl ⟨?t4kw,?t4hy⟩) hHeld ?t4rest
   case t4ho=>exact at_ops3 _ _ _ _ _
   case t4k1=>kernel_rfl
   case t4k2=>kernel_rfl
   case t4k3=>kernel_rfl
   case t4kw=>rfl
   case t4hy=>(intro w9 hS9;(try dsimp only at hS9);go_simp;try with_reducible rfl)
   try simp only [Act.put,List.setIfInBounds_toArray,List.set_cons_zero,List.set_cons_succ]
   refine wpAnyH_take (i:=4) (oi:=?t5oi) (v:=?t5v) ?t5ho ?t5k1 ?t5k2 ?t5k3 (fun _ _ _ h=>h) (Or.inl ⟨?t5kw,?t5hy⟩) hHeld ?t5rest
   case t5ho=>exact at_ops4 _ _ _ _ _ _
   case t5k1=>kernel_rfl
   case t5k2=>kernel_rfl
   case t5k3=>kernel_rfl
   case t5kw=>rfl
   case t5hy=>(intro w9 hS9;(try dsimp only at hS9);go_simp;try with_reducible rfl)
   try simp only [Act.put,List.setIfInBounds_toArray,List.set_cons_zero,List.set_cons_succ]
   refine wpAnyH_ready (rs:=[2]) (by kernel_rfl) (by simp) ?_
   refine AllReadyH.cons (at_ops2 _ _ _ _) (fun K hK=>?_) AllReadyH.nil
   go_simp
   (go_at_call 61;refine (slots_List.calls _ _ _ _ _ _ _ _ _ _ _ _ _ ?s1 hg.c2 ?s2 hg.c3 ?s3 hg.c4 hLs.out).mono ?_;(case s1=>exact Kd.C_drewN hg4.h2 1);(case s2=>exact Kd.C_drewN hg4.h3 1);(case s3=>exact Kd.C_drewN hg4.h4 1);rintro e w5 ⟨vL,rfl,hLr,hb5⟩;obtain ⟨ad2,k2,B2,k3,rfl,z0,z1,z2,hRc⟩:=slot_cells hLr seat.f0 hf0 hk2;rw [hcs.out] at z2 hRc)
   refine hK.out _ _ ?s6 (fun hHeld=>?_)
   case s6=>exact ⟨pw_cell_below hb5 p1,pw_cell_below hb5 p2,pw_cell_below hb5 p3,pw_cell_below hb5 p4,pw_cell_below hb5 p5,pw_cell_below hb5 r0⟩
   clear hK K
   try simp only [Act.put,List.setIfInBounds_toArray,List.set_cons_zero,List.set_cons_succ]
   refine wpAnyH_take (i:=5) (oi:=?t7oi) (v:=?t7v) ?t7ho ?t7k1 ?t7k2 ?t7k3 (fun _ _ _ h=>h) (Or.inl ⟨?t7kw,?t7hy⟩) hHeld ?t7rest
   case t7ho=>exact at_ops5 _ _ _ _ _ _ _
   case t7k1=>kernel_rfl
   case t7k2=>kernel_rfl
   case t7k3=>kernel_rfl
   case t7kw=>rfl
   case t7hy=>(intro w9 hS9;(try dsimp only at hS9);go_simp;try with_reducible rfl)
   try simp only [Act.put,List.setIfInBounds_toArray,List.set_cons_zero,List.set_cons_succ]
   refine wpAnyH_take (i:=6) (oi:=?t8oi) (v:=?t8v) ?t8ho ?t8k1 ?t8k2 ?t8k3 (fun _ _ _ h=>h) (Or.inl ⟨?t8kw,?t8hy⟩) hHeld ?t8rest
   case t8ho=>exact at_ops6 _ _ _ _ _ _ _ _
   case t8k1=>kernel_rfl
   case t8k2=>kernel_rfl
   case t8k3=>kernel_rfl
   case t8kw=>rfl
   case t8hy=>(intro w9 hS9;(try dsimp only at hS9);go_simp;try with_reducible rfl)
   try simp only [Act.put,List.setIfInBounds_toArray,List.set_cons_zero,List.set_cons_succ]
   refine wpAnyH_ready (rs:=[7]) (by kernel_rfl) (by simp) ?_
   refine AllReadyH.cons (at_ops7 _ _ _ _ _ _ _ _ _) (fun K hK=>?_) AllReadyH.nil
   go_simp
   refine hK.out _ _ ?s9 (fun hHeld=>?_)
   case s9=>exact hHeld
   clear hK K
   try simp only [Act.put,List.setIfInBounds_toArray,List.set_cons_zero,List.set_cons_succ]
   refine wpAnyH_take (i:=8) (oi:=?t10oi) (v:=?t10v) ?t10ho ?t10k1 ?t10k2 ?t10k3 (fun _ _ _ h=>h) (Or.inl ⟨?t10kw,?t10hy⟩) hHeld ?t10rest
   case t10ho=>exact at_ops8 _ _ _ _ _ _ _ _ _ _
   case t10k1=>kernel_rfl
   case t10k2=>kernel_rfl
   case t10k3=>kernel_rfl
   case t10kw=>rfl
   case t10hy=>(intro w9 hS9;(try dsimp only at hS9);go_simp;try with_reducible rfl)
   try simp only [Act.put,List.setIfInBounds_toArray,List.set_cons_zero,List.set_cons_succ]
   refine wpAnyH_done (by kernel_rfl) ?_ _
   refine NoPanic.normal ?_
   have hQ5:=blk_below (blk_drew hQ4.out) hb5
   have hR5:=blk_below (blk_drew hR4.out) hb5
   have hB5:=below_step (below_drew hB4.out) hb5
   obtain ⟨q0,q1,q2,q3⟩:=cells4 hQ5
   obtain ⟨s0,s1⟩:=cells2 hR5
   have hk5 : seat.f1 ≤ 256:=by have:=hbl.out;omega
   have hd0:=hd.1
   have hd1:=hd.2
   have eS : wrap64 (seat.f1 + d) = seat.f1 + d:=w64 (by omega) (by omega)
   replace hRc:=Lib.hid hRc
   clear z0 z1 z2 r0 r1 p0 p1 p2 p3 p4 p5 p6 p7 hQ5 hR5 hb5 hLr
   by_cases hi : 0 ≤ seat.f1 + d
   ·have ti : decide (0 ≤ seat.f1 + d) = true:=decide_eq_true hi
    by_cases hj : seat.f1 + d < cs.length
    ·have tj : decide (seat.f1 + d < (cs.length : Int)) = true:=decide_eq_true hj
     obtain ⟨ad4,eA,zc⟩:=Kd.at_int (Kd.R_reads' hRc.out).2.2 (seat.f1 + d) hi hj
     cases eA
     go_wp2
     go_ret
     exact ⟨rfl,hB5⟩
    ·have tj : decide (seat.f1 + d < (cs.length : Int)) = false:=decide_eq_false hj
     go_wp2
     go_ret
     exact ⟨rfl,hB5⟩
   ·have ti : decide (0 ≤ seat.f1 + d) = false:=decide_eq_false hi
    go_wp2
    go_ret
    exact ⟨rfl,hB5⟩
 | true =>
  obtain ⟨seat,hseat⟩ : ∃ x,rd_T150 (seatsOf H W bl ri be).2 at_ = x:=⟨_,rfl⟩
  have hres : stepOf H W bl ri be at_ true d = stepSeat H W bl ri be seat at_ d:=by rw [← hseat];rfl
  have hok : SeatOk (slotsOf H W bl ri be).length bl.length seat:=by rw [← hseat];exact hok.out
  obtain ⟨hk1,hk2,hk3,hk4⟩:=hok
  rw [hres]
  clear hres hok
  replace hseat:=Lib.hid hseat
  by_cases hneg : seat.f0 < 0
  ·have tn : decide (seat.f0 < 0) = true:=decide_eq_true hneg
   have hfin : stepSeat H W bl ri be seat at_ d = at_:=by unfold stepSeat;rw [if_pos hneg]
   rw [hfin]
   clear hfin
   go_enter Tryz.func68,Tryz.ntmps68
   go_wp2_with (go_at_call 93;go_loud (refine (slots_Seats.calls _ _ _ _ _ _ _ _ _ _ _ _ _ _ (Kd.C_below hg.h2 hx.out.2.2) hg.c2 (Kd.C_below hg.h3 hx.out.2.2) hg.c3 (Kd.C_below hg.h4 hx.out.2.2) hg.c4 hS.out).mono ?_;rintro e w3 ⟨v0,v1,rfl,hr0,hr1,hb3⟩;have hP:=blk_below hx.out.1 hb3;have hQ:=blk_below hx.out.2.1 hb3;have hB:=below_step hx.out.2.2 hb3;obtain ⟨p0,p1,p2,p3,p4,p5,p6,p7⟩:=cells8 hP;obtain ⟨q0,q1,q2,q3⟩:=cells4 hQ;have hz:=blk_lt hQ;obtain ⟨B0,k0,rfl⟩:=Kd.R_slice hr1;have hC0:=(Kd.R_reads' hr1).2.2;obtain ⟨ad,eA,y0,y1⟩:=at_T150 hC0 at_ ha0 (by have:=hsf.out.2.2.2;omega);cases eA;rw [hseat.out] at y0 y1;have hsf1:=hsf.out.2.2.2;rw [hsf1] at *;replace hP:=Lib.hid hP;replace hQ:=Lib.hid hQ;clear hr0 hr1 hb3 hC0))
   go_ret
   exact ⟨rfl,below_alloc hB _⟩
  ·have tn : decide (seat.f0 < 0) = false:=decide_eq_false hneg
   have hf0 : 0 ≤ seat.f0:=by omega
   obtain ⟨cs,hcs⟩ : ∃ x,(rd_T137 (slotsOf H W bl ri be) seat.f0).f2 = x:=⟨_,rfl⟩
   have hfin : stepSeat H W bl ri be seat at_ d = if 0 ≤ seat.f1 + d ∧ seat.f1 + d < cs.length then rd cs (seat.f1 + d) else at_:=by unfold stepSeat;rw [if_neg hneg,hcs]
   rw [hfin]
   clear hfin
   obtain ⟨L,hL⟩ : ∃ L,slotsOf H W bl ri be = L:=⟨_,rfl⟩
   have hLs : slots_List.f H W bl ri be = some L:=by unfold slots_List.f;rw [hL]
   rw [hL] at hcs hk2
   replace hcs:=Lib.hid hcs
   replace hLs:=Lib.hid hLs
   clear hL
   go_enter Tryz.func68,Tryz.ntmps68
   go_wp2_with (go_at_call 93;go_loud (refine (slots_Seats.calls _ _ _ _ _ _ _ _ _ _ _ _ _ _ (Kd.C_below hg.h2 hx.out.2.2) hg.c2 (Kd.C_below hg.h3 hx.out.2.2) hg.c3 (Kd.C_below hg.h4 hx.out.2.2) hg.c4 hS.out).mono ?_;rintro e w3 ⟨v0,v1,rfl,hr0,hr1,hb3⟩;have hP:=blk_below hx.out.1 hb3;have hQ:=blk_below hx.out.2.1 hb3;have hB:=below_step hx.out.2.2 hb3;obtain ⟨p0,p1,p2,p3,p4,p5,p6,p7⟩:=cells8 hP;obtain ⟨q0,q1,q2,q3⟩:=cells4 hQ;have hz:=blk_lt hQ;obtain ⟨B0,k0,rfl⟩:=Kd.R_slice hr1;have hC0:=(Kd.R_reads' hr1).2.2;obtain ⟨ad,eA,y0,y1⟩:=at_T150 hC0 at_ ha0 (by have:=hsf.out.2.2.2;omega);cases eA;rw [hseat.out] at y0 y1;have hsf1:=hsf.out.2.2.2;rw [hsf1] at *;replace hP:=Lib.hid hP;replace hQ:=Lib.hid hQ;clear hr0 hr1 hb3 hC0))
   have hP4:=blk_alloc hP.out (.cells #[.int .i64 seat.f0,.int .i64 seat.f1] 150)
   have hQ4:=blk_alloc hQ.out (.cells #[.int .i64 seat.f0,.int .i64 seat.f1] 150)
   have hR4:=blk_new w3 (.cells #[.int .i64 seat.f0,.int .i64 seat.f1] 150)
   have hB4:=below_alloc hB (.cells #[.int .i64 seat.f0,.int .i64 seat.f1] 150)
   generalize w3.alloc (.cells #[.int .i64 seat.f0,.int .i64 seat.f1] 150) = w4 at hP4 hQ4 hR4 hB4 ⊢
   clear y0 y1 p0 p1 p2 p3 p4 p5 p6 p7 q0 q1 q2 q3 hB hP hQ hx
   replace hP4:=Lib.hid hP4
   replace hQ4:=Lib.hid hQ4
   replace hR4:=Lib.hid hR4
   replace hB4:=Lib.hid hB4
   have hg4:=hg.below hB4.out
   obtain ⟨r0,r1⟩:=cells2 hR4.out
   obtain ⟨p0,p1,p2,p3,p4,p5,p6,p7⟩:=cells8 hP4.out
   refine wp_region_noPanic ?_
   refine wp_region_held_drew (S:=(fun w'=>w'.cell? ⟨w.heap.size,1,none⟩ = some (.int .i64 H) ∧ w'.cell? ⟨w.heap.size,2,none⟩ = some (.int .i64 W) ∧ w'.cell? ⟨w.heap.size,3,none⟩ = some (.slice A2 bl.length c2) ∧ w'.cell? ⟨w.heap.size,4,none⟩ = some (.slice A3 ri.length c3) ∧ w'.cell? ⟨w.heap.size,5,none⟩ = some (.slice A4 be.length c4) ∧ w'.cell? ⟨w3.heap.size,0,none⟩ = some (.int .i64 seat.f0))) (by kernel_rfl) ?s11 (fun hHeld=>?_)
   case s11=>((try dsimp only);go_keep)
   refine wpAnyH_take (i:=0) (oi:=?t12oi) (v:=?t12v) ?t12ho ?t12k1 ?t12k2 ?t12k3 (fun _ _ _ h=>h) (Or.inl ⟨?t12kw,?t12hy⟩) hHeld ?t12rest
   case t12ho=>exact at_ops0 _ _
   case t12k1=>kernel_rfl
   case t12k2=>kernel_rfl
   case t12k3=>kernel_rfl
   case t12kw=>rfl
   case t12hy=>(intro w9 hS9;(try dsimp only at hS9);go_simp;try with_reducible rfl)
   try simp only [Act.put,List.setIfInBounds_toArray,List.set_cons_zero,List.set_cons_succ]
   refine wpAnyH_take (i:=1) (oi:=?t13oi) (v:=?t13v) ?t13ho ?t13k1 ?t13k2 ?t13k3 (fun _ _ _ h=>h) (Or.inl ⟨?t13kw,?t13hy⟩) hHeld ?t13rest
   case t13ho=>exact at_ops1 _ _ _
   case t13k1=>kernel_rfl
   case t13k2=>kernel_rfl
   case t13k3=>kernel_rfl
   case t13kw=>rfl
   case t13hy=>(intro w9 hS9;(try dsimp only at hS9);go_simp;try with_reducible rfl)
   try simp only [Act.put,List.setIfInBounds_toArray,List.set_cons_zero,List.set_cons_succ]
   refine wpAnyH_take (i:=3) (oi:=?t14oi) (v:=?t14v) ?t14ho ?t14k1 ?t14k2 ?t14k3 (fun _ _ _ h=>h) (Or.inl ⟨?t14kw,?t14hy⟩) hHeld ?t14rest
   case t14ho=>exact at_ops3 _ _ _ _ _
   case t14k1=>kernel_rfl
   case t14k2=>kernel_rfl
   case t14k3=>kernel_rfl
   case t14kw=>rfl
   case t14hy=>(intro w9 hS9;(try dsimp only at hS9);go_simp;try with_reducible rfl)
   try simp only [Act.put,List.setIfInBounds_toArray,List.set_cons_zero,List.set_cons_succ]
   refine wpAnyH_take (i:=4) (oi:=?t15oi) (v:=?t15v) ?t15ho ?t15k1 ?t15k2 ?t15k3 (fun _ _ _ h=>h) (Or.inl ⟨?t15kw,?t15hy⟩) hHeld ?t15rest
   case t15ho=>exact at_ops4 _ _ _ _ _ _
   case t15k1=>kernel_rfl
   case t15k2=>kernel_rfl
   case t15k3=>kernel_rfl
   case t15kw=>rfl
   case t15hy=>(intro w9 hS9;(try dsimp only at hS9);go_simp;try with_reducible rfl)
   try simp only [Act.put,List.setIfInBounds_toArray,List.set_cons_zero,List.set_cons_succ]
   refine wpAnyH_ready (rs:=[2]) (by kernel_rfl) (by simp) ?_
   refine AllReadyH.cons (at_ops2 _ _ _ _) (fun K hK=>?_) AllReadyH.nil
   go_simp
   (go_at_call 61;refine (slots_List.calls _ _ _ _ _ _ _ _ _ _ _ _ _ ?s1 hg.c2 ?s2 hg.c3 ?s3 hg.c4 hLs.out).mono ?_;(case s1=>exact Kd.C_drewN hg4.h2 1);(case s2=>exact Kd.C_drewN hg4.h3 1);(case s3=>exact Kd.C_drewN hg4.h4 1);rintro e w5 ⟨vL,rfl,hLr,hb5⟩;obtain ⟨ad2,k2,B2,k3,rfl,z0,z1,z2,hRc⟩:=slot_cells hLr seat.f0 hf0 hk2;rw [hcs.out] at z2 hRc)
   refine hK.out _ _ ?s16 (fun hHeld=>?_)
   case s16=>exact ⟨pw_cell_below hb5 p1,pw_cell_below hb5 p2,pw_cell_below hb5 p3,pw_cell_below hb5 p4,pw_cell_below hb5 p5,pw_cell_below hb5 r0⟩
   clear hK K
   try simp only [Act.put,List.setIfInBounds_toArray,List.set_cons_zero,List.set_cons_succ]
   refine wpAnyH_take (i:=5) (oi:=?t17oi) (v:=?t17v) ?t17ho ?t17k1 ?t17k2 ?t17k3 (fun _ _ _ h=>h) (Or.inl ⟨?t17kw,?t17hy⟩) hHeld ?t17rest
   case t17ho=>exact at_ops5 _ _ _ _ _ _ _
   case t17k1=>kernel_rfl
   case t17k2=>kernel_rfl
   case t17k3=>kernel_rfl
   case t17kw=>rfl
   case t17hy=>(intro w9 hS9;(try dsimp only at hS9);go_simp;try with_reducible rfl)
   try simp only [Act.put,List.setIfInBounds_toArray,List.set_cons_zero,List.set_cons_succ]
   refine wpAnyH_take (i:=6) (oi:=?t18oi) (v:=?t18v) ?t18ho ?t18k1 ?t18k2 ?t18k3 (fun _ _ _ h=>h) (Or.inl ⟨?t18kw,?t18hy⟩) hHeld ?t18rest
   case t18ho=>exact at_ops6 _ _ _ _ _ _ _ _
   case t18k1=>kernel_rfl
   case t18k2=>kernel_rfl
   case t18k3=>kernel_rfl
   case t18kw=>rfl
   case t18hy=>(intro w9 hS9;(try dsimp only at hS9);go_simp;try with_reducible rfl)
   try simp only [Act.put,List.setIfInBounds_toArray,List.set_cons_zero,List.set_cons_succ]
   refine wpAnyH_ready (rs:=[7]) (by kernel_rfl) (by simp) ?_
   refine AllReadyH.cons (at_ops7 _ _ _ _ _ _ _ _ _) (fun K hK=>?_) AllReadyH.nil
   go_simp
   refine hK.out _ _ ?s19 (fun hHeld=>?_)
   case s19=>exact hHeld
   clear hK K
   try simp only [Act.put,List.setIfInBounds_toArray,List.set_cons_zero,List.set_cons_succ]
   refine wpAnyH_take (i:=8) (oi:=?t20oi) (v:=?t20v) ?t20ho ?t20k1 ?t20k2 ?t20k3 (fun _ _ _ h=>h) (Or.inl ⟨?t20kw,?t20hy⟩) hHeld ?t20rest
   case t20ho=>exact at_ops8 _ _ _ _ _ _ _ _ _ _
   case t20k1=>kernel_rfl
   case t20k2=>kernel_rfl
   case t20k3=>kernel_rfl
   case t20kw=>rfl
   case t20hy=>(intro w9 hS9;(try dsimp only at hS9);go_simp;try with_reducible rfl)
   try simp only [Act.put,List.setIfInBounds_toArray,List.set_cons_zero,List.set_cons_succ]
   refine wpAnyH_done (by kernel_rfl) ?_ _
   refine NoPanic.normal ?_
   have hQ5:=blk_below (blk_drew hQ4.out) hb5
   have hR5:=blk_below (blk_drew hR4.out) hb5
   have hB5:=below_step (below_drew hB4.out) hb5
   obtain ⟨q0,q1,q2,q3⟩:=cells4 hQ5
   obtain ⟨s0,s1⟩:=cells2 hR5
   have hk5 : seat.f1 ≤ 256:=by have:=hbl.out;omega
   have hd0:=hd.1
   have hd1:=hd.2
   have eS : wrap64 (seat.f1 + d) = seat.f1 + d:=w64 (by omega) (by omega)
   replace hRc:=Lib.hid hRc
   clear z0 z1 z2 r0 r1 p0 p1 p2 p3 p4 p5 p6 p7 hQ5 hR5 hb5 hLr
   by_cases hi : 0 ≤ seat.f1 + d
   ·have ti : decide (0 ≤ seat.f1 + d) = true:=decide_eq_true hi
    by_cases hj : seat.f1 + d < cs.length
    ·have tj : decide (seat.f1 + d < (cs.length : Int)) = true:=decide_eq_true hj
     obtain ⟨ad4,eA,zc⟩:=Kd.at_int (Kd.R_reads' hRc.out).2.2 (seat.f1 + d) hi hj
     cases eA
     go_wp2
     go_ret
     exact ⟨rfl,hB5⟩
    ·have tj : decide (seat.f1 + d < (cs.length : Int)) = false:=decide_eq_false hj
     go_wp2
     go_ret
     exact ⟨rfl,hB5⟩
   ·have ti : decide (0 ≤ seat.f1 + d) = false:=decide_eq_false hi
    go_wp2
    go_ret
    exact ⟨rfl,hB5⟩
end Go.Proofs.YtjopbfidjapmbaaGreatDoor.Q
end
