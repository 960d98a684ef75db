/- PART 10 OF A PROOF: Lean functions, and that the program computes them; written by hand and by a program. Not trusted: Lean checks it. -/
import Derived.Test.YtpfbcepgmigeiaaGreatDoorPa8
import Derived.Test.YtpfbcepgmigeiaaGreatDoorPa9
set_option linter.unusedVariables false
set_option linter.unusedSimpArgs false
section
namespace Go.Proofs.YtpfbcepgmigeiaaGreatDoor.Q
open Go.RowKit Go.Shelf Go.Proofs.YtpfbcepgmigeiaaGreatDoorW.PrintWords Go.Proofs.YtpfbcepgmigeiaaGreatDoorW.PrintLast Go.Proofs.YtpfbcepgmigeiaaGreatDoorS
set_option linter.unusedVariables false
set_option linter.unusedSimpArgs false
attribute [local go_sem] Oper.semAt_some
abbrev NRune:={ x : Nat × Nat × Nat // x.2.1 ≤ 2147483647 ∧ unar ((x.2.1 : Nat) : Int) }
def nenc (x : NRune) : Array Value:=#[.int .i64 x.1.1,.int .i32 x.1.2.1]
set_option maxHeartbeats 4000000 in
set_option maxRecDepth 1000000 in
theorem all1_nar (F : Fence) (n : Nat) (hF : F.fn 113) (hro : F.round = none) (hn : 1 ≤ n) (box : Nat) (s : ByteArray) (w : World) (hsz : s.size ≤ 140737488351232) (hbox : w.cell? ⟨box,0,none⟩ = some (.string s)) (hu : ∀ t ∈ uall s,unar ((t.2.1 : Nat) : Int)) :
    SeqStopsA F n Tryz.prog 113 #[.pointer (some ⟨box,0,none⟩)] nenc (fun xs=>xs.map Subtype.val = uall s) (fun pre=>∃ r,pre.map Subtype.val ++ r = uall s) (uall s).length w:=fun l J Jx W hW hJ hJx hY h0=>by
  have hbW : W.cell? ⟨box,0,none⟩ = some (.string s):=(hW.cell (p:=⟨box,0,none⟩) (World.block_lt_of_cell? w _ hbox)).trans hbox
  refine callsIn_of_wp Tryz.func113 rfl hF ?_ hro
  simp only [Tryz.ntmps113,List.size_toArray,List.length_cons,List.length_nil,Nat.reduceAdd,Nat.reduceSub,Array.replicate_succ,Array.replicate_zero,List.push_toArray,List.append_toArray,List.nil_append,List.cons_append]
  gi_wp2
  gi_loopw [] (fun wr=>∃ (pos f : Nat) (pre : List NRune),wr.heap[W.heap.size]? = some (.stringIter s pos) ∧ J pre wr ∧ pre.map Subtype.val ++ ulist s f pos = uall s ∧ s.size ≤ pos + f) (fun wr=>s.size - wr.iterPos W.heap.size)
  case atStart=>exact ⟨0,s.size,[],World.iter_heap W s 0,abides_alloc hJ _ h0,rfl,by omega⟩
  case round =>
    obtain ⟨pos,f,pre,hit,hJs,hx,hf⟩:=hrel
    by_cases hp : pos < s.size
    · have hnx : ∀ ty,(Instr.next (.pointer (some ⟨W.heap.size,0,none⟩)) true ty).run Tryz.prog wr = _:=fun ty=>Lib.run_next_any_at wr W.heap.size s pos ty hit hp
      have hwd:=width_pos s pos hp
      have hd1:=decode_le s pos
      have hit2:=Lib.iterAt_heap wr (W.heap.size) s pos (pos + (Utf8.decode s pos).2) hit
      obtain ⟨f,rfl⟩ : ∃ f',f = f' + 1:=⟨f - 1,by omega⟩
      have hJ2:=abides_iter hJ (Nat.le_refl _) hit (pos + (Utf8.decode s pos).2) hJs
      rw [ulist_step s f pos hp] at hx
      have hlen : pre.length < (uall s).length:=by
        have h1:=congrArg List.length hx
        simp only [List.length_append,List.length_map,List.length_cons] at h1
        omega
      have hu1 : unar (((Utf8.decode s pos).1 : Nat) : Int):=hu (pos,(Utf8.decode s pos).1,(Utf8.decode s pos).2) (by rw [← hx];simp)
      obtain ⟨fn,tmps,assign,body,hy,hR⟩:=hY pre ⟨(pos,(Utf8.decode s pos).1,(Utf8.decode s pos).2),⟨hd1,hu1⟩⟩ _ hJ2 hlen
      simp only [nenc] at hy
      have hx:=Lib.hid hx
      clear hJ2
      gi_wp2
      refine hR.mono ?_
      rintro e W3 (⟨rfl,hJ3,hk3⟩ | ⟨rfl,hJx3⟩)
      · have hit3:=hk3.same _ _ hit2 rfl
        gi_wp2
        go_roundw
        case rel=>exact ⟨pos + (Utf8.decode s pos).2,f,pre ++ [⟨(pos,(Utf8.decode s pos).1,(Utf8.decode s pos).2),⟨hd1,hu1⟩⟩],hit3,hJ3,by have:=hx.out;simpa using this,by omega⟩
        case measure=>simp only [World.iterPos,hit3,hit];omega
      · gi_wp2
        refine bodyPost_ret (results_none rfl _ _ _) rfl ?_
        exact ⟨⟨_,rfl⟩,.inr ⟨_,⟨_,by have:=hx.out;simpa using this⟩,hJx3⟩⟩
    · have hnx : ∀ ty,(Instr.next (.pointer (some ⟨W.heap.size,0,none⟩)) true ty).run Tryz.prog wr = _:=fun ty=>Lib.run_next_end_at wr (W.heap.size) s pos ty hit hp
      rw [ulist_end s f pos hp,List.append_nil] at hx
      have hx:=Lib.hid hx
      gi_wp2
      go_end0
      exact ⟨⟨_,rfl⟩,.inl ⟨pre,hx.out,hJs⟩⟩
theorem keeps_set {W : World} {b : Nat} {t : TypeId} {u : Value} (h : Boxed W b t u) (v : Value) : KeepsOthers W (W.setCell ⟨b,0,none⟩ v) :=
  ⟨by simp,fun k o ho hc=>by
    by_cases e : k = b
    · subst e
      rw [show W.heap[k]? = _ from h] at ho
      cases ho
      cases hc
    · rw [Below.heap_setCell _ _ _ k e];exact ho⟩
theorem boxed_below {W W' : World} {b : Nat} {t : TypeId} {u : Value} (h : Boxed W b t u) (hb : Below W.heap.size W W') : Boxed W' b t u:=(hb.block b h.lt).trans h
theorem boxed4 (w : World) (t0 t1 t2 t3 : TypeId) (v0 v1 v2 v3 : Value) : Boxed ((((w.alloc (.cells #[v0] t0)).alloc (.cells #[v1] t1)).alloc (.cells #[v2] t2)).alloc (.cells #[v3] t3)) w.heap.size t0 v0 ∧ Boxed ((((w.alloc (.cells #[v0] t0)).alloc (.cells #[v1] t1)).alloc (.cells #[v2] t2)).alloc (.cells #[v3] t3)) (w.heap.size + 1) t1 v1 ∧ Boxed ((((w.alloc (.cells #[v0] t0)).alloc (.cells #[v1] t1)).alloc (.cells #[v2] t2)).alloc (.cells #[v3] t3)) (w.heap.size + 1 + 1) t2 v2 ∧ Boxed ((((w.alloc (.cells #[v0] t0)).alloc (.cells #[v1] t1)).alloc (.cells #[v2] t2)).alloc (.cells #[v3] t3)) (w.heap.size + 1 + 1 + 1) t3 v3 ∧ Below w.heap.size w ((((w.alloc (.cells #[v0] t0)).alloc (.cells #[v1] t1)).alloc (.cells #[v2] t2)).alloc (.cells #[v3] t3)):=by
  have h1:=Boxed.new (w.alloc (.cells #[v0] t0)) t1 v1
  have h2:=Boxed.new ((w.alloc (.cells #[v0] t0)).alloc (.cells #[v1] t1)) t2 v2
  rw [show (w.alloc (.cells #[v0] t0)).heap.size = w.heap.size + 1 from by simp] at h1
  rw [show ((w.alloc (.cells #[v0] t0)).alloc (.cells #[v1] t1)).heap.size = w.heap.size + 1 + 1 from by simp] at h2
  have h3:=Boxed.new (((w.alloc (.cells #[v0] t0)).alloc (.cells #[v1] t1)).alloc (.cells #[v2] t2)) t3 v3
  rw [show (((w.alloc (.cells #[v0] t0)).alloc (.cells #[v1] t1)).alloc (.cells #[v2] t2)).heap.size = w.heap.size + 1 + 1 + 1 from by simp] at h3
  exact ⟨(((Boxed.new w t0 v0).alloc _).alloc _).alloc _,(h1.alloc _).alloc _,h2.alloc _,h3,below_alloc (below_alloc (below_alloc (below_alloc (Below.refl _ _) _) _) _) _⟩
set_option maxHeartbeats 4000000 in
set_option maxRecDepth 1000000 in
theorem fit_calls {s : ByteArray} {n : Nat} (hs : s.size ≤ 1048576) (hn : Nar s.data.toList n) (h3 : n ≤ 3) (w : World) :
    Calls Tryz.prog 63 #[.string s,.int .i64 3] w fun e w'=>e = .returned (.string s) ∧ Below w.heap.size w w':=by
  have hlenU : (uall s).length = n:=by
    have:=hn.count
    simpa [ucount] using this
  refine (callsIn_wide (n:=9)).1 ?_
  refine callsIn_of_wp_marks Tryz.func63 rfl trivial ?_ rfl
  simp only [Tryz.ntmps63,List.size_toArray,List.length_cons,List.length_nil,Nat.reduceAdd,Nat.reduceSub,Array.replicate_succ,Array.replicate_zero,List.push_toArray,List.append_toArray,List.nil_append,List.cons_append]
  gi_wp2_with (refine ⟨trivial,?_⟩;gi_at_call 93;refine (callsIn_wide.2 (utf_All_call _ _)).mono ?_;rintro e w' ⟨rfl,rfl⟩)
  have h1:=boxed4 w 9 3 9 9 (.string s) (.int .i64 3) (.string ⟨#[]⟩) (.string s)
  refine wpIn_rangeFunc_ownF rfl (by omega) (gf:=113) (lb:=#[.pointer (some ⟨w.heap.size + 1 + 1 + 1,0,none⟩)]) rfl trivial (enters_of Tryz.func113 (by kernel_rfl) rfl)
    (all1_nar Fence.wide _ trivial rfl (by omega) (w.heap.size + 1 + 1 + 1) s _ (by omega) h1.2.2.2.1.cell hn.all) walksK_t walksK_b (Below.refl _ _) (fun _=>rfl)
    (fun pre W=>(Boxed W w.heap.size 9 (.string s) ∧ Boxed W (w.heap.size + 1) 3 (.int .i64 (3 - (pre.length : Int))) ∧ Boxed W (w.heap.size + 1 + 1) 9 (.string ⟨#[]⟩)) ∧ Below w.heap.size w W)
    (fun _ _ _=>False) ?hI (fun _ _ _ _ _ hs _ _=>hs) ?h0
    (fun x=>{ tmps:=#[.string s,.int .i64 3,.pointer (some ⟨w.heap.size,0,none⟩),.pointer (some ⟨w.heap.size + 1,0,none⟩),.pointer (some ⟨w.heap.size + 1 + 1,0,none⟩),.int .i64 x.1.1,.int .i32 x.1.2.1,undef,.int .i64 3,.bool false,.string s,.func (.func 113) #[] #[.pointer (some ⟨w.heap.size + 1 + 1 + 1,0,none⟩)],.int .i64 x.1.1,.int .i32 x.1.2.1,undef,undef,undef,undef,undef,undef,undef,undef,undef,undef,undef,undef],defers:=[] }) ?assign ?body ?done ?stop
  case hI=>exact OwnFrom.and (OwnFrom.and (Own.from (boxed_own _ _ fun _=>.string s) _) (OwnFrom.and (Own.from (boxed_own _ _ fun pre : List NRune=>.int .i64 (3 - (pre.length : Int))) _) (Own.from (boxed_own _ _ fun _=>.string ⟨#[]⟩) _))) (ownFrom_below (Nat.le_refl _) (by simp;omega))
  case h0=>exact ⟨⟨h1.1,h1.2.1,h1.2.2.1⟩,h1.2.2.2.2⟩
  case assign =>
    intro l x W K hK
    simp only [nenc]
    gi_wp2
    exact hK
  case body =>
    rintro l pre x W ⟨⟨hs0,hn0,hr0⟩,hB⟩ hlen
    have hlt : pre.length < 3:=by omega
    obtain ⟨q,hq⟩ : ∃ q : Int,3 - (pre.length : Int) = q:=⟨_,rfl⟩
    rw [hq] at hn0
    have hq1 : 1 ≤ q:=by omega
    have hq3 : q ≤ 3:=by omega
    have ew : wrap64 (q - 1) = q - 1:=w64 (by omega) (by omega)
    replace hs0:=Lib.hid hs0
    replace hn0:=Lib.hid hn0
    replace hr0:=Lib.hid hr0
    replace ew:=Lib.hid ew
    replace hq:=Lib.hid hq
    replace hlen:=Lib.hid hlen
    clear hlt hlenU
    have hd : 1 ≤ 9 - 1 - 1:=by omega
    gi_wp2_with (refine ⟨trivial,?_⟩;gi_at_call 80;refine (CallsIn.inRound l (callsIn_wide.2 (width_calls _ x.2.2 _))).mono ?_;rintro e w' ⟨rfl,hb1⟩;have c1:=(boxed_below hn0.out hb1).cell;have c2:=(boxed_below hn0.out hb1).frozen)
    have hko : KeepsOthers W (w'.setCell ⟨w.heap.size + 1,0,none⟩ (.int .i64 (q - 1))):=(keeps_below hb1).trans (keeps_set (boxed_below hn0.out hb1) _)
    refine ⟨hko,hko.walks,⟨(boxed_below hs0.out hb1).other (by omega) _,?_,(boxed_below hr0.out hb1).other (by omega) _⟩,(hB.trans (hb1.mono hB.size)).setCell (p:=⟨w.heap.size + 1,0,none⟩) (by show w.heap.size ≤ w.heap.size + 1;omega) _⟩
    have h2:=(boxed_below hn0.out hb1).set (.int .i64 (q - 1))
    rwa [show q - 1 = 3 - (((pre ++ [x]).length : Nat) : Int) from by rw [← hq.out,List.length_append,List.length_singleton];omega] at h2 ⊢
  case done =>
    rintro D xs W hD hS ⟨⟨hs0,hn0,hr0⟩,hB⟩ hK
    have c0:=hs0.cell
    have c1:=hr0.cell
    have c2:=hr0.frozen
    replace hs0:=Lib.hid hs0
    replace hn0:=Lib.hid hn0
    replace hr0:=Lib.hid hr0
    gi_wp2
    have hne : D ≠ w.heap.size + 1 + 1:=by simp at hD;omega
    have hK2 : (W.setCell ⟨w.heap.size + 1 + 1,0,none⟩ (.string s)).heap[D]? = some (.deferred (some [])):=by rw [Below.heap_setCell _ _ _ D hne];exact hK
    refine ⟨by simp,.inl ⟨_,_,rfl,run_takeDeferred hK2,?_⟩⟩
    have hfin : ((W.setCell ⟨w.heap.size + 1 + 1,0,none⟩ (.string s)).putObj D (.deferred none)).cell? ⟨w.heap.size + 1 + 1,0,none⟩ = some (.string s):=by
      have h2:=hr0.out.set (.string s)
      have h3 : Boxed ((W.setCell ⟨w.heap.size + 1 + 1,0,none⟩ (.string s)).putObj D (.deferred none)) (w.heap.size + 1 + 1) 9 (.string s):=(World.putObj_heap_other (fun e=>hne e.symm)).trans h2
      exact h3.cell
    exact ⟨_,by simp [results,Tryz.results63,go_sem,hfin],rfl,((hB.setCell (p:=⟨w.heap.size + 1 + 1,0,none⟩) (by show w.heap.size ≤ w.heap.size + 1 + 1;omega) _)).trans (belowK_b (w:=w) (Nat.le_refl _) _ D _ _ (by simp at hD;omega) hK2 rfl rfl)⟩
  case stop =>
    rintro D c pre W hD _ h _
    exact h.elim
set_option maxHeartbeats 4000000 in
set_option maxRecDepth 1000000 in
theorem pad_calls {s : ByteArray} {n : Nat} (hs : s.size ≤ 1048577) (hn : Nar s.data.toList n) (h3 : n ≤ 3) (w : World) :
    Calls Tryz.prog 33 #[.string s,.int .i64 3] w fun e w'=>e = .returned (.string (padB s)) ∧ Below w.heap.size w w':=by
  have hp : padB s = s ++ spB (3 - n):=by unfold padB;rw [hn.count]
  rw [hp]
  clear hp
  have hsz : ∀ k,k ≤ 3 → ¬ (9223372036854775807 : Int) < (s.size : Int) + ((spB k).size : Int):=fun k hk=>by
    have : (spB k).size = k:=by simp [spB,ByteArray.size]
    omega
  have hc : n = 0 ∨ n = 1 ∨ n = 2 ∨ n = 3:=by omega
  rcases hc with rfl | rfl | rfl | rfl
  · have hszk:=hsz 3 (by decide)
    clear hsz
    go_enter Tryz.func33,Tryz.ntmps33
    go_wp2_with (first | (go_at_call 49;go_must (refine (columns_calls s 0 _ (by omega) hn).mono ?_;rintro e w1 ⟨rfl,hb1⟩)) | (go_at_call 16;go_must (refine (repeat_sp 3 (by decide) _).mono ?_;rintro e w2 ⟨rfl,rfl⟩)))
    go_ret
    exact ⟨rfl,hb1⟩
  · have hszk:=hsz 2 (by decide)
    clear hsz
    go_enter Tryz.func33,Tryz.ntmps33
    go_wp2_with (first | (go_at_call 49;go_must (refine (columns_calls s 1 _ (by omega) hn).mono ?_;rintro e w1 ⟨rfl,hb1⟩)) | (go_at_call 16;go_must (refine (repeat_sp 2 (by decide) _).mono ?_;rintro e w2 ⟨rfl,rfl⟩)))
    go_ret
    exact ⟨rfl,hb1⟩
  · have hszk:=hsz 1 (by decide)
    clear hsz
    go_enter Tryz.func33,Tryz.ntmps33
    go_wp2_with (first | (go_at_call 49;go_must (refine (columns_calls s 2 _ (by omega) hn).mono ?_;rintro e w1 ⟨rfl,hb1⟩)) | (go_at_call 16;go_must (refine (repeat_sp 1 (by decide) _).mono ?_;rintro e w2 ⟨rfl,rfl⟩)))
    go_ret
    exact ⟨rfl,hb1⟩
  · have hszk:=hsz 0 (by decide)
    clear hsz
    go_enter Tryz.func33,Tryz.ntmps33
    go_wp2_with (first | (go_at_call 49;go_must (refine (columns_calls s 3 _ (by omega) hn).mono ?_;rintro e w1 ⟨rfl,hb1⟩)) | (go_at_call 16;go_must (refine (repeat_sp 0 (by decide) _).mono ?_;rintro e w2 ⟨rfl,rfl⟩)))
    go_ret
    exact ⟨rfl,hb1⟩
set_option maxHeartbeats 4000000 in
set_option maxRecDepth 1000000 in
theorem middle_calls {s : ByteArray} {n : Nat} (hs : s.size ≤ 1048576) (hn : Nar s.data.toList n) (h3 : n ≤ 3) (w : World) :
    Calls Tryz.prog 35 #[.string s] w fun e w'=>e = .returned (.string (midB s)) ∧ Below w.heap.size w w':=by
  have h1n : Nar (⟨#[32]⟩ ++ s : ByteArray).data.toList (1 + n):=nar_app (Nar.ascii [32] (by decide)) hn
  have hsz1 : (⟨#[32]⟩ ++ s : ByteArray).size ≤ 1048577:=by simp [ByteArray.size_append];have : (⟨#[32]⟩ : ByteArray).size = 1:=rfl;omega
  have hsz : ¬ (9223372036854775807 : Int) < ((⟨#[32]⟩ : ByteArray).size : Int) + (s.size : Int):=by
    have : (⟨#[32]⟩ : ByteArray).size = 1:=rfl
    omega
  by_cases h2 : n ≤ 2
  · have hm : midB s = padB (⟨#[32]⟩ ++ s):=by unfold midB;rw [hn.count,if_pos h2]
    rw [hm]
    clear hm
    have hc : n = 0 ∨ n = 1 ∨ n = 2:=by omega
    rcases hc with rfl | rfl | rfl
    · go_enter Tryz.func35,Tryz.ntmps35
      go_wp2_with (first | (go_at_call 49;go_must (refine (columns_calls s 0 _ (by omega) hn).mono ?_;rintro e w1 ⟨rfl,hb1⟩)) | (go_at_call 33;go_must (refine (pad_calls hsz1 h1n (by omega) _).mono ?_;rintro e w2 ⟨rfl,hb2⟩)))
      go_ret
      exact ⟨rfl,hb1.trans (hb2.mono hb1.size)⟩
    · go_enter Tryz.func35,Tryz.ntmps35
      go_wp2_with (first | (go_at_call 49;go_must (refine (columns_calls s 1 _ (by omega) hn).mono ?_;rintro e w1 ⟨rfl,hb1⟩)) | (go_at_call 33;go_must (refine (pad_calls hsz1 h1n (by omega) _).mono ?_;rintro e w2 ⟨rfl,hb2⟩)))
      go_ret
      exact ⟨rfl,hb1.trans (hb2.mono hb1.size)⟩
    · go_enter Tryz.func35,Tryz.ntmps35
      go_wp2_with (first | (go_at_call 49;go_must (refine (columns_calls s 2 _ (by omega) hn).mono ?_;rintro e w1 ⟨rfl,hb1⟩)) | (go_at_call 33;go_must (refine (pad_calls hsz1 h1n (by omega) _).mono ?_;rintro e w2 ⟨rfl,hb2⟩)))
      go_ret
      exact ⟨rfl,hb1.trans (hb2.mono hb1.size)⟩
  · have h33 : n = 3:=by omega
    subst h33
    have hm : midB s = s:=by unfold midB;rw [hn.count,if_neg h2]
    have hp : padB s = s:=by
      unfold padB
      rw [hn.count]
      show s ++ (⟨#[]⟩ : ByteArray) = s
      exact ByteArray.append_empty
    rw [hm]
    clear hm
    replace hp:=Lib.hid hp
    go_enter Tryz.func35,Tryz.ntmps35
    go_wp2_with (first | (go_at_call 49;go_must (refine (columns_calls s 3 _ (by omega) hn).mono ?_;rintro e w1 ⟨rfl,hb1⟩)) | (go_at_call 63;go_must (refine (fit_calls hs hn (by omega) _).mono ?_;rintro e w2 ⟨rfl,hb2⟩)) | (go_at_call 33;go_must (refine (pad_calls (by omega) hn (by omega) _).mono ?_;rw [hp.out];rintro e w3 ⟨rfl,hb3⟩)))
    go_ret
    exact ⟨rfl,(hb1.trans (hb2.mono hb1.size)).trans (hb3.mono (hb1.trans (hb2.mono hb1.size)).size)⟩
end Go.Proofs.YtpfbcepgmigeiaaGreatDoor.Q
end
section
namespace Go.Proofs.YtpfbcepgmigeiaaGreatDoor.Q
open Go.RowKit Go.Proofs.YtpfbcepgmigeiaaGreatDoorW.PrintWords Go.Proofs.YtpfbcepgmigeiaaGreatDoorW.PrintLast Go.Proofs.YtpfbcepgmigeiaaGreatDoorW.PrintMore
set_option linter.unusedVariables false
set_option linter.unusedSimpArgs false
open Go.Proofs.YtpfbcepgmigeiaaGreatDoorS
theorem pg_rem {i W : Int} (h0 : 0 ≤ i) (hW : 1 ≤ W) : i.tmod W = i % W ∧ 0 ≤ i % W ∧ i % W < W ∧ (0 < i % W → 1 ≤ i):=by
  refine ⟨Int.tmod_eq_emod_of_nonneg h0,Int.emod_nonneg i (by omega),Int.emod_lt_of_pos i (by omega),fun h=>?_⟩
  rcases Int.lt_or_le 0 i with h1 | h1
  · omega
  · have : i = 0:=by omega
    subst this
    simp at h
set_option maxHeartbeats 4000000 in
set_option maxRecDepth 1000000 in
theorem side_calls {bg : Nat} {H W : Int} {A2 : Option Addr} {c2 : Nat} {bl : List Bool} {A3 : Option Addr} {c3 : Nat} {ri : List Bool} {A4 : Option Addr} {c4 : Nat} {be : List Bool} {i : Int} {w : World} (hg : GridIs H W A2 c2 bl A3 c3 ri A4 c4 be w) (hb : GridBox bg H W A2 c2 bl A3 c3 ri A4 c4 be w) (h0 : 0 ≤ i) (h1 : i < bl.length) :
    Calls Tryz.prog 29 #[.int .i64 i,.pointer (some ⟨bg,0,none⟩)] w fun e w'=>e = .returned (.string (sideB W ri i)) ∧ Below w.heap.size w w':=by
  obtain ⟨hH,hW,hl⟩:=gcheck_ok hg.ok
  have hn:=(mul_small hH hW).2
  obtain ⟨em,m0,mW,mi⟩:=pg_rem h0 hW.1
  obtain ⟨b0,b1,b2,b3,b4⟩:=hb
  obtain ⟨m,hm⟩ : ∃ m,i % W = m:=⟨_,rfl⟩
  have hv : sideB W ri i = if 0 < m ∧ rdOf false ri (i - 1) = true then ⟨#[35]⟩ else ⟨#[124]⟩:=by unfold sideB;rw [hm];rfl
  rw [hm] at em m0 mW mi
  have hW0 : W ≠ 0:=by omega
  by_cases hp : 0 < m
  · have hi1:=mi hp
    have ew : wrap64 (i - 1) = i - 1:=w64 (by omega) (by omega)
    have hq : i - 1 < (ri.length : Int):=by omega
    obtain ⟨ad,eA,z⟩:=Kd.at_bool hg.h3 (i - 1) (by omega) hq
    cases eA
    obtain ⟨bb,hbb⟩ : ∃ x,rdOf false ri (i - 1) = x:=⟨_,rfl⟩
    rw [hbb] at z hv
    rw [show (i - 1).toNat = i.toNat - 1 from by omega] at z
    clear hbb hm mi
    cases bb with
    | true =>
      rw [if_pos ⟨hp,rfl⟩] at hv
      rw [hv]
      clear hv
      go_enter Tryz.func29,Tryz.ntmps29
      go_wp2
      go_ret
      exact ⟨rfl,Below.refl _ _⟩
    | false =>
      rw [if_neg (fun h=>by cases h.2)] at hv
      rw [hv]
      clear hv
      go_enter Tryz.func29,Tryz.ntmps29
      go_wp2
      go_ret
      exact ⟨rfl,Below.refl _ _⟩
  · rw [if_neg (fun h=>hp h.1)] at hv
    rw [hv]
    clear hv hm mi
    go_enter Tryz.func29,Tryz.ntmps29
    go_wp2
    go_ret
    exact ⟨rfl,Below.refl _ _⟩
set_option maxHeartbeats 4000000 in
set_option maxRecDepth 1000000 in
theorem filled_calls {bg bs : Nat} {H W : Int} {A2 : Option Addr} {c2 : Nat} {bl : List Bool} {A3 : Option Addr} {c3 : Nat} {ri : List Bool} {A4 : Option Addr} {c4 : Nat} {be : List Bool} {i : Int} {s : ByteArray} {w : World} (hg : GridIs H W A2 c2 bl A3 c3 ri A4 c4 be w) (hb : GridBox bg H W A2 c2 bl A3 c3 ri A4 c4 be w) (hs : w.cell? ⟨bs,0,none⟩ = some (.func (.func 29) #[] #[.pointer (some ⟨bg,0,none⟩)])) (h0 : 0 ≤ i) (h1 : i < bl.length) (hz : s.size ≤ 2097152) :
    Calls Tryz.prog 30 #[.int .i64 i,.string s,.pointer (some ⟨bg,0,none⟩),.pointer (some ⟨bs,0,none⟩)] w fun e w'=>e = .returned (.string (fillB W bl ri i s)) ∧ Below w.heap.size w w':=by
  have hside:=side_calls hg hb h0 h1
  obtain ⟨b0,b1,b2,b3,b4⟩:=hb
  obtain ⟨ad,eA,z⟩:=Kd.at_bool hg.h2 i h0 h1
  cases eA
  obtain ⟨bb,hbb⟩ : ∃ x,rdOf false bl i = x:=⟨_,rfl⟩
  have hsz : (sideB W ri i).size = 1:=by unfold sideB;split <;> rfl
  have hv : fillB W bl ri i s = sideB W ri i ++ (if bb = true then ⟨#[35,35,35]⟩ else s):=by unfold fillB;rw [gat_rd,hbb]
  rw [hbb] at z
  clear hbb
  obtain ⟨V,hV⟩ : ∃ V,sideB W ri i = V:=⟨_,rfl⟩
  rw [hV] at hside hsz hv
  clear hV
  replace hside:=Lib.hid hside
  cases bb with
  | true =>
    rw [if_pos rfl] at hv
    rw [hv]
    clear hv
    have t3 : ¬ (9223372036854775807 : Int) < (V.size : Int) + ((⟨#[35,35,35]⟩ : ByteArray).size : Int):=by
      have : (⟨#[35,35,35]⟩ : ByteArray).size = 3:=rfl
      omega
    go_enter Tryz.func30,Tryz.ntmps30
    go_wp2_with (go_at_call 29;go_must (refine hside.out.mono ?_;rintro e w1 ⟨rfl,hb1⟩))
    go_ret
    exact ⟨rfl,hb1⟩
  | false =>
    rw [if_neg (by decide)] at hv
    rw [hv]
    clear hv
    have t3 : ¬ (9223372036854775807 : Int) < (V.size : Int) + (s.size : Int):=by omega
    go_enter Tryz.func30,Tryz.ntmps30
    go_wp2_with (go_at_call 29;go_must (refine hside.out.mono ?_;rintro e w1 ⟨rfl,hb1⟩))
    go_ret
    exact ⟨rfl,hb1⟩
set_option maxHeartbeats 4000000 in
set_option maxRecDepth 1000000 in
theorem top_calls {br bg : Nat} {H W : Int} {A2 : Option Addr} {c2 : Nat} {bl : List Bool} {A3 : Option Addr} {c3 : Nat} {ri : List Bool} {A4 : Option Addr} {c4 : Nat} {be : List Bool} {i : Int} {r : Nat} {w : World} (hg : GridIs H W A2 c2 bl A3 c3 ri A4 c4 be w) (hb : GridBox bg H W A2 c2 bl A3 c3 ri A4 c4 be w) (hr : w.cell? ⟨br,0,none⟩ = some (.int .i64 (r : Int))) (h0 : 0 ≤ i) (h1 : i < bl.length) (hi : 0 < r → W ≤ i) (hr2 : r ≤ 256) :
    Calls Tryz.prog 31 #[.int .i64 i,.pointer (some ⟨br,0,none⟩),.pointer (some ⟨bg,0,none⟩)] w fun e w'=>e = .returned (.string (topB W be r i)) ∧ Below w.heap.size w w':=by
  obtain ⟨hH,hW,hl⟩:=gcheck_ok hg.ok
  have hn:=(mul_small hH hW).2
  obtain ⟨b0,b1,b2,b3,b4⟩:=hb
  have hv : topB W be r i = if 0 < r ∧ rdOf false be (i - W) = true then ⟨#[43,61,61,61]⟩ else ⟨#[43,45,45,45]⟩:=rfl
  by_cases hp : 0 < r
  · have hi1:=hi hp
    have ew : wrap64 (i - W) = i - W:=w64 (by omega) (by omega)
    have hq : i - W < (be.length : Int):=by omega
    obtain ⟨ad,eA,z⟩:=Kd.at_bool hg.h4 (i - W) (by omega) hq
    cases eA
    obtain ⟨bb,hbb⟩ : ∃ x,rdOf false be (i - W) = x:=⟨_,rfl⟩
    rw [hbb] at z hv
    clear hbb hi
    have hp2 : (0 : Int) < (r : Int):=by omega
    cases bb with
    | true =>
      rw [if_pos ⟨hp,rfl⟩] at hv
      rw [hv]
      clear hv
      go_enter Tryz.func31,Tryz.ntmps31
      go_wp2
      go_ret
      exact ⟨rfl,Below.refl _ _⟩
    | false =>
      rw [if_neg (fun h=>by cases h.2)] at hv
      rw [hv]
      clear hv
      go_enter Tryz.func31,Tryz.ntmps31
      go_wp2
      go_ret
      exact ⟨rfl,Below.refl _ _⟩
  · rw [if_neg (fun h=>hp h.1)] at hv
    rw [hv]
    clear hv hi
    have hp2 : r = 0:=by omega
    subst hp2
    go_enter Tryz.func31,Tryz.ntmps31
    go_wp2
    go_ret
    exact ⟨rfl,Below.refl _ _⟩
theorem dash_calls (i : Int) (w : World) : Calls Tryz.prog 36 #[.int .i64 i] w fun e w'=>e = .returned (.string ⟨#[43,45,45,45]⟩) ∧ Below w.heap.size w w':=by
  go_enter Tryz.func36,Tryz.ntmps36
  go_wp2
  go_ret
  exact ⟨rfl,Below.refl _ _⟩
end Go.Proofs.YtpfbcepgmigeiaaGreatDoor.Q
end
section
namespace Go.Proofs.YtpfbcepgmigeiaaGreatDoor.Q
open Go.RowKit Go.Proofs.YtpfbcepgmigeiaaGreatDoorW.PrintWords Go.Proofs.YtpfbcepgmigeiaaGreatDoorW.PrintLast Go.Proofs.YtpfbcepgmigeiaaGreatDoorW.PrintMore
set_option linter.unusedVariables false
set_option linter.unusedSimpArgs false
open Go.Proofs.YtpfbcepgmigeiaaGreatDoorS
theorem spB_size (n : Nat) : (spB n).size = n:=by simp [spB,ByteArray.size]
theorem goesV_ {P : Program} {ops : Array Oper} {Q : Exit → Act → World → Prop} {oi : Oper} {N : Option Tmp} {a : Act} {w : World} {K : Act → World → Prop} {f : FuncId} {fn : Func} {x : Operand} {aa : Array Operand} {ts : Array TypeId} (hf : P.funcs[f]? = some fn) (hname : (fn.name == "runtime.NumGoroutine") = false) (hb : fn.body.isSome = true) (args caps : Array Value)
    (hw : Region.wanted oi (yielded ops a.tmps) = true) (hN : oi.dst = N) (hop : oi.op = .call { callee:=.value x,args:=aa,argTypes:=ts }) (hx : a.eval x = .func (.func f) #[] caps) (hargs : aa.map a.eval = args)
    (h : Calls P f (args ++ caps) w fun e w'=>∃ v,e = .returned v ∧ K (a.put N v) w') : if Region.wanted oi (yielded ops a.tmps) = true then Oper.wp P oi a w K Q else K (a.put N undef) w:=by
  refine call_ f (args ++ caps) hw hN ?_ h
  have he:=enters_ hf hname hb (args ++ caps) w
  unfold execOp
  simp [hop,resolve,Deferred.ofValue,invoke,hx,hargs,he]
set_option maxHeartbeats 4000000 in
set_option maxRecDepth 1000000 in
theorem num_calls {bg bs bf bn : Nat} {H W : Int} {A2 : Option Addr} {c2 : Nat} {bl : List Bool} {A3 : Option Addr} {c3 : Nat} {ri : List Bool} {A4 : Option Addr} {c4 : Nat} {be : List Bool} {An : Option Addr} {cn : Nat} {nums : List ByteArray} {i : Int} {w : World} (hg : GridIs H W A2 c2 bl A3 c3 ri A4 c4 be w) (hb : GridBox bg H W A2 c2 bl A3 c3 ri A4 c4 be w) (hs : w.cell? ⟨bs,0,none⟩ = some (.func (.func 29) #[] #[.pointer (some ⟨bg,0,none⟩)])) (hf : w.cell? ⟨bf,0,none⟩ = some (.func (.func 30) #[] #[.pointer (some ⟨bg,0,none⟩),.pointer (some ⟨bs,0,none⟩)])) (hn : w.cell? ⟨bn,0,none⟩ = some (.slice An nums.length cn)) (hC : Kd.C Kd.string w An nums.length nums) (hln : nums.length = bl.length) (hok : ∀ s ∈ nums,NumOk s) (h0 : 0 ≤ i) (h1 : i < bl.length) :
    Calls Tryz.prog 32 #[.int .i64 i,.pointer (some ⟨bf,0,none⟩),.pointer (some ⟨bn,0,none⟩)] w fun e w'=>e = .returned (.string (fillB W bl ri i (padB (rdOf ByteArray.empty nums i)))) ∧ Below w.heap.size w w':=by
  have hq : i < (nums.length : Int):=by omega
  have hk:=rd_num hok i
  obtain ⟨ad,eA,z⟩:=Kd.at_string hC i h0 hq
  cases eA
  obtain ⟨x,hx⟩ : ∃ x,rdOf ByteArray.empty nums i = x:=⟨_,rfl⟩
  rw [hx] at z hk
  rw [hx]
  clear hx
  have hkp:=(nar_pad hk.2 hk.1)
  have hps : (padB x).size ≤ 2097152:=by
    unfold padB
    rw [hk.2.count]
    rw [ByteArray.size_append,spB_size]
    have:=hk.1
    omega
  obtain ⟨y,hy⟩ : ∃ y,padB x = y:=⟨_,rfl⟩
  replace hk:=Lib.hid hk
  go_enter Tryz.func32,Tryz.ntmps32
  go_wp2
  refine start_ (n:=9) (S:=fun w'=>w'.cell? ⟨bf,0,none⟩ = some (.func (.func 30) #[] #[.pointer (some ⟨bg,0,none⟩),.pointer (some ⟨bs,0,none⟩)]) ∧ w'.cell? ⟨bn,0,none⟩ = some (.slice (some ad) nums.length cn) ∧ w'.cell? (ad.add i.toNat) = some (.string x)) (ds:=[]) #[false,false,false,false,false,false,false,false,false] (by kernel_rfl) rfl rfl (⟨pw_cell_below (below_drew (Below.refl _ _)) hf,pw_cell_below (below_drew (Below.refl _ _)) hn,pw_cell_below (below_drew (Below.refl _ _)) z⟩) (fun hHeld=>?_)
  have hD:=below_drew (Below.refl w.heap.size w)
  replace hg:=Lib.hid (hg.below hD)
  replace hb:=Lib.hid (hb.below hD)
  replace hs:=Lib.hid (pw_cell_below hD hs)
  clear hf hn z hC
  replace hD:=Lib.hid hD
  generalize w.drew = w1 at hD hg hb hs hHeld ⊢
  refine pure_ (i:=1) (N:=some 6) (v:=?_) (a':=?_) #[false,true,false,false,false,false,false,false,false] rfl rfl (by kernel_rfl) (fun _ _ _ h=>h) (Or.inl ⟨by rfl,?_⟩) ?_ ?_
  rotate_left
  · intro w';go_simp;try with_reducible rfl
  rotate_left
  · simp only [Act.put,List.setIfInBounds_toArray,List.set_cons_zero,List.set_cons_succ,i64_w,i32_w];rfl
  refine pure_ (i:=3) (N:=some 8) (v:=?_) (a':=?_) #[false,true,false,true,false,false,false,false,false] rfl rfl (by kernel_rfl) (fun _ _ _ h=>h) (Or.inl ⟨by rfl,?_⟩) ?_ ?_
  rotate_left
  · intro w';go_simp;try with_reducible rfl
  rotate_left
  · simp only [Act.put,List.setIfInBounds_toArray,List.set_cons_zero,List.set_cons_succ,i64_w,i32_w];rfl
  refine take_ (i:=0) (N:=some 5) (v:=?_) (a':=?_) #[true,true,false,true,false,false,false,false,false] rfl rfl (by kernel_rfl) (fun _ _ _ h=>h) (Or.inl ⟨by rfl,?_⟩) hHeld ?_ ?_
  rotate_left
  · rintro w' ⟨s0,s1,s2⟩;go_simp;try with_reducible rfl
  rotate_left
  · simp only [Act.put,List.setIfInBounds_toArray,List.set_cons_zero,List.set_cons_succ,i64_w,i32_w];rfl
  refine take_ (i:=2) (N:=some 7) (v:=?_) (a':=?_) #[true,true,true,true,false,false,false,false,false] rfl rfl (by kernel_rfl) (fun _ _ _ h=>h) (Or.inl ⟨by rfl,?_⟩) hHeld ?_ ?_
  rotate_left
  · rintro w' ⟨s0,s1,s2⟩;go_simp;try with_reducible rfl
  rotate_left
  · simp only [Act.put,List.setIfInBounds_toArray,List.set_cons_zero,List.set_cons_succ,i64_w,i32_w];rfl
  refine pure_ (i:=4) (N:=some 9) (v:=?_) (a':=?_) #[true,true,true,true,true,false,false,false,false] rfl rfl (by kernel_rfl) (fun _ _ _ h=>h) (Or.inl ⟨by rfl,?_⟩) ?_ ?_
  rotate_left
  · intro w';go_simp;try with_reducible rfl
  rotate_left
  · simp only [Act.put,List.setIfInBounds_toArray,List.set_cons_zero,List.set_cons_succ,i64_w,i32_w];rfl
  refine take_ (i:=5) (N:=some 10) (v:=?_) (a':=?_) #[true,true,true,true,true,true,false,false,false] rfl rfl (by kernel_rfl) (fun _ _ _ h=>h) (Or.inl ⟨by rfl,?_⟩) hHeld ?_ ?_
  rotate_left
  · rintro w' ⟨s0,s1,s2⟩;go_simp;try with_reducible rfl
  rotate_left
  · simp only [Act.put,List.setIfInBounds_toArray,List.set_cons_zero,List.set_cons_succ,i64_w,i32_w];rfl
  refine one_ (i:=6) (N:=some 11) #[true,true,true,true,true,true,true,false,false] rfl rfl (by kernel_rfl) (by decide) (fun K hK=>?_)
  refine goes_ Tryz.func33 (by kernel_rfl) rfl #[.string x,.int .i64 3] (by rfl) rfl rfl (by first | (go_simp;done) | (go_simp;rfl)) ?_
  refine (pad_calls (by have:=hk.out.1;omega) hk.out.2 hk.out.1 _).mono ?_
  rintro e w2 ⟨rfl,hb2⟩
  refine ⟨_,rfl,?_⟩
  rw [hy]
  replace hg:=Lib.hid (hg.out.below hb2)
  replace hb:=Lib.hid (hb.out.below hb2)
  replace hs:=Lib.hid (pw_cell_below hb2 hs.out)
  replace hD:=Lib.hid (hD.out.trans (hb2.mono hD.out.size))
  have hS2:=And.intro (pw_cell_below hb2 hHeld.1) (And.intro (pw_cell_below hb2 hHeld.2.1) (pw_cell_below hb2 hHeld.2.2))
  clear hb2 hHeld
  refine hK.out _ _ (hS2) (fun hHeld=>?_)
  clear hK K
  refine norm_ (a':=?_) ?_ ?_
  rotate_left
  · show Act.put _ (some 11) _ = _
    simp only [Act.put,List.setIfInBounds_toArray,List.set_cons_zero,List.set_cons_succ,i64_w,i32_w];rfl
  clear hS2
  refine one_ (i:=7) (N:=some 12) #[true,true,true,true,true,true,true,true,false] rfl rfl (by kernel_rfl) (by decide) (fun K hK=>?_)
  refine goesV_ Tryz.func30 (by kernel_rfl) rfl #[.int .i64 i,.string y] #[.pointer (some ⟨bg,0,none⟩),.pointer (some ⟨bs,0,none⟩)] (by rfl) rfl rfl (by first | (go_simp;done) | (go_simp;rfl)) (by first | (go_simp;done) | (go_simp;rfl)) ?_
  refine (filled_calls hg.out hb.out hs.out h0 h1 (by rw [← hy];exact hps)).mono ?_
  rintro e w3 ⟨rfl,hb3⟩
  refine ⟨_,rfl,?_⟩
  have hS3:=And.intro (pw_cell_below hb3 hHeld.1) (And.intro (pw_cell_below hb3 hHeld.2.1) (pw_cell_below hb3 hHeld.2.2))
  replace hD:=Lib.hid (hD.out.trans (hb3.mono hD.out.size))
  clear hb3 hHeld
  refine hK.out _ _ (hS3) (fun hHeld=>?_)
  clear hK K
  refine norm_ (a':=?_) ?_ ?_
  rotate_left
  · show Act.put _ (some 12) _ = _
    simp only [Act.put,List.setIfInBounds_toArray,List.set_cons_zero,List.set_cons_succ,i64_w,i32_w];rfl
  refine pure_ (i:=8) (N:=some 4) (v:=?_) (a':=?_) #[true,true,true,true,true,true,true,true,true] rfl rfl (by kernel_rfl) (fun _ _ _ h=>h) (Or.inl ⟨by rfl,?_⟩) ?_ ?_
  rotate_left
  · intro w';go_simp;try with_reducible rfl
  rotate_left
  · simp only [Act.put,List.setIfInBounds_toArray,List.set_cons_zero,List.set_cons_succ,i64_w,i32_w];rfl
  refine done_ (by kernel_rfl) ?_
  go_wp2
  go_ret
  exact ⟨by rw [← hy];rfl,hD.out⟩
set_option maxHeartbeats 4000000 in
set_option maxRecDepth 1000000 in
theorem cel_calls {bg bs bf bp : Nat} {H W : Int} {A2 : Option Addr} {c2 : Nat} {bl : List Bool} {A3 : Option Addr} {c3 : Nat} {ri : List Bool} {A4 : Option Addr} {c4 : Nat} {be : List Bool} {A5 : Option Addr} {c5 : Nat} {cells : List ByteArray} {i : Int} {w : World} (hg : GridIs H W A2 c2 bl A3 c3 ri A4 c4 be w) (hb : GridBox bg H W A2 c2 bl A3 c3 ri A4 c4 be w) (hs : w.cell? ⟨bs,0,none⟩ = some (.func (.func 29) #[] #[.pointer (some ⟨bg,0,none⟩)])) (hf : w.cell? ⟨bf,0,none⟩ = some (.func (.func 30) #[] #[.pointer (some ⟨bg,0,none⟩),.pointer (some ⟨bs,0,none⟩)])) (hn : w.cell? ⟨bp,6,none⟩ = some (.slice A5 cells.length c5)) (hC : Kd.C Kd.string w A5 cells.length cells) (hln : cells.length = bl.length) (hok : ∀ s ∈ cells,CellOk s) (hsm : Small cells) (h0 : 0 ≤ i) (h1 : i < bl.length) :
    Calls Tryz.prog 34 #[.int .i64 i,.pointer (some ⟨bf,0,none⟩),.pointer (some ⟨bp,0,none⟩)] w fun e w'=>e = .returned (.string (fillB W bl ri i (midB (rdOf ByteArray.empty cells i)))) ∧ Below w.heap.size w w':=by
  have hq : i < (cells.length : Int):=by omega
  obtain ⟨n,hk3,hkn⟩:=rd_cell hok i
  obtain ⟨ad,eA,z⟩:=Kd.at_string hC i h0 hq
  cases eA
  have hxs : (rdOf ByteArray.empty cells i).size ≤ 1048576:=hsm _ (prd_mem (by omega))
  obtain ⟨x,hx⟩ : ∃ x,rdOf ByteArray.empty cells i = x:=⟨_,rfl⟩
  rw [hx] at z hkn hxs
  rw [hx]
  clear hx
  have hps : (midB x).size ≤ 2097152:=by
    unfold midB
    split
    · unfold padB
      have e2 : (⟨#[32]⟩ : ByteArray).size = 1:=rfl
      rw [ByteArray.size_append,ByteArray.size_append,e2,spB_size]
      omega
    · omega
  obtain ⟨y,hy⟩ : ∃ y,midB x = y:=⟨_,rfl⟩
  replace hkn:=Lib.hid hkn
  go_enter Tryz.func34,Tryz.ntmps34
  go_wp2
  refine start_ (n:=10) (S:=fun w'=>w'.cell? ⟨bf,0,none⟩ = some (.func (.func 30) #[] #[.pointer (some ⟨bg,0,none⟩),.pointer (some ⟨bs,0,none⟩)]) ∧ w'.cell? ⟨bp,6,none⟩ = some (.slice (some ad) cells.length c5) ∧ w'.cell? (ad.add i.toNat) = some (.string x)) (ds:=[]) #[false,false,false,false,false,false,false,false,false,false] (by kernel_rfl) rfl rfl (⟨pw_cell_below (below_drew (Below.refl _ _)) hf,pw_cell_below (below_drew (Below.refl _ _)) hn,pw_cell_below (below_drew (Below.refl _ _)) z⟩) (fun hHeld=>?_)
  have hD:=below_drew (Below.refl w.heap.size w)
  replace hg:=Lib.hid (hg.below hD)
  replace hb:=Lib.hid (hb.below hD)
  replace hs:=Lib.hid (pw_cell_below hD hs)
  clear hf hn z hC
  replace hD:=Lib.hid hD
  generalize w.drew = w1 at hD hg hb hs hHeld ⊢
  refine pure_ (i:=1) (N:=some 6) (v:=?_) (a':=?_) #[false,true,false,false,false,false,false,false,false,false] rfl rfl (by kernel_rfl) (fun _ _ _ h=>h) (Or.inl ⟨by rfl,?_⟩) ?_ ?_
  rotate_left
  · intro w';go_simp;try with_reducible rfl
  rotate_left
  · simp only [Act.put,List.setIfInBounds_toArray,List.set_cons_zero,List.set_cons_succ,i64_w,i32_w];rfl
  refine pure_ (i:=2) (N:=some 7) (v:=?_) (a':=?_) #[false,true,true,false,false,false,false,false,false,false] rfl rfl (by kernel_rfl) (fun _ _ _ h=>h) (Or.inl ⟨by rfl,?_⟩) ?_ ?_
  rotate_left
  · intro w';go_simp;try with_reducible rfl
  rotate_left
  · simp only [Act.put,List.setIfInBounds_toArray,List.set_cons_zero,List.set_cons_succ,i64_w,i32_w];rfl
  refine pure_ (i:=4) (N:=some 9) (v:=?_) (a':=?_) #[false,true,true,false,true,false,false,false,false,false] rfl rfl (by kernel_rfl) (fun _ _ _ h=>h) (Or.inl ⟨by rfl,?_⟩) ?_ ?_
  rotate_left
  · intro w';go_simp;try with_reducible rfl
  rotate_left
  · simp only [Act.put,List.setIfInBounds_toArray,List.set_cons_zero,List.set_cons_succ,i64_w,i32_w];rfl
  refine take_ (i:=0) (N:=some 5) (v:=?_) (a':=?_) #[true,true,true,false,true,false,false,false,false,false] rfl rfl (by kernel_rfl) (fun _ _ _ h=>h) (Or.inl ⟨by rfl,?_⟩) hHeld ?_ ?_
  rotate_left
  · rintro w' ⟨s0,s1,s2⟩;go_simp;try with_reducible rfl
  rotate_left
  · simp only [Act.put,List.setIfInBounds_toArray,List.set_cons_zero,List.set_cons_succ,i64_w,i32_w];rfl
  refine take_ (i:=3) (N:=some 8) (v:=?_) (a':=?_) #[true,true,true,true,true,false,false,false,false,false] rfl rfl (by kernel_rfl) (fun _ _ _ h=>h) (Or.inl ⟨by rfl,?_⟩) hHeld ?_ ?_
  rotate_left
  · rintro w' ⟨s0,s1,s2⟩;go_simp;try with_reducible rfl
  rotate_left
  · simp only [Act.put,List.setIfInBounds_toArray,List.set_cons_zero,List.set_cons_succ,i64_w,i32_w];rfl
  refine pure_ (i:=5) (N:=some 10) (v:=?_) (a':=?_) #[true,true,true,true,true,true,false,false,false,false] rfl rfl (by kernel_rfl) (fun _ _ _ h=>h) (Or.inl ⟨by rfl,?_⟩) ?_ ?_
  rotate_left
  · intro w';go_simp;try with_reducible rfl
  rotate_left
  · simp only [Act.put,List.setIfInBounds_toArray,List.set_cons_zero,List.set_cons_succ,i64_w,i32_w];rfl
  refine take_ (i:=6) (N:=some 11) (v:=?_) (a':=?_) #[true,true,true,true,true,true,true,false,false,false] rfl rfl (by kernel_rfl) (fun _ _ _ h=>h) (Or.inl ⟨by rfl,?_⟩) hHeld ?_ ?_
  rotate_left
  · rintro w' ⟨s0,s1,s2⟩;go_simp;try with_reducible rfl
  rotate_left
  · simp only [Act.put,List.setIfInBounds_toArray,List.set_cons_zero,List.set_cons_succ,i64_w,i32_w];rfl
  refine one_ (i:=7) (N:=some 12) #[true,true,true,true,true,true,true,true,false,false] rfl rfl (by kernel_rfl) (by decide) (fun K hK=>?_)
  refine goes_ Tryz.func35 (by kernel_rfl) rfl #[.string x] (by rfl) rfl rfl (by first | (go_simp;done) | (go_simp;rfl)) ?_
  refine (middle_calls hxs hkn.out hk3 _).mono ?_
  rintro e w2 ⟨rfl,hb2⟩
  refine ⟨_,rfl,?_⟩
  rw [hy]
  replace hg:=Lib.hid (hg.out.below hb2)
  replace hb:=Lib.hid (hb.out.below hb2)
  replace hs:=Lib.hid (pw_cell_below hb2 hs.out)
  replace hD:=Lib.hid (hD.out.trans (hb2.mono hD.out.size))
  have hS2:=And.intro (pw_cell_below hb2 hHeld.1) (And.intro (pw_cell_below hb2 hHeld.2.1) (pw_cell_below hb2 hHeld.2.2))
  clear hb2 hHeld
  refine hK.out _ _ (hS2) (fun hHeld=>?_)
  clear hK K
  refine norm_ (a':=?_) ?_ ?_
  rotate_left
  · show Act.put _ (some 12) _ = _
    simp only [Act.put,List.setIfInBounds_toArray,List.set_cons_zero,List.set_cons_succ,i64_w,i32_w];rfl
  clear hS2
  refine one_ (i:=8) (N:=some 13) #[true,true,true,true,true,true,true,true,true,false] rfl rfl (by kernel_rfl) (by decide) (fun K hK=>?_)
  refine goesV_ Tryz.func30 (by kernel_rfl) rfl #[.int .i64 i,.string y] #[.pointer (some ⟨bg,0,none⟩),.pointer (some ⟨bs,0,none⟩)] (by rfl) rfl rfl (by first | (go_simp;done) | (go_simp;rfl)) (by first | (go_simp;done) | (go_simp;rfl)) ?_
  refine (filled_calls hg.out hb.out hs.out h0 h1 (by rw [← hy];exact hps)).mono ?_
  rintro e w3 ⟨rfl,hb3⟩
  refine ⟨_,rfl,?_⟩
  have hS3:=And.intro (pw_cell_below hb3 hHeld.1) (And.intro (pw_cell_below hb3 hHeld.2.1) (pw_cell_below hb3 hHeld.2.2))
  replace hD:=Lib.hid (hD.out.trans (hb3.mono hD.out.size))
  clear hb3 hHeld
  refine hK.out _ _ (hS3) (fun hHeld=>?_)
  clear hK K
  refine norm_ (a':=?_) ?_ ?_
  rotate_left
  · show Act.put _ (some 13) _ = _
    simp only [Act.put,List.setIfInBounds_toArray,List.set_cons_zero,List.set_cons_succ,i64_w,i32_w];rfl
  refine pure_ (i:=9) (N:=some 4) (v:=?_) (a':=?_) #[true,true,true,true,true,true,true,true,true,true] rfl rfl (by kernel_rfl) (fun _ _ _ h=>h) (Or.inl ⟨by rfl,?_⟩) ?_ ?_
  rotate_left
  · intro w';go_simp;try with_reducible rfl
  rotate_left
  · simp only [Act.put,List.setIfInBounds_toArray,List.set_cons_zero,List.set_cons_succ,i64_w,i32_w];rfl
  refine done_ (by kernel_rfl) ?_
  go_wp2
  go_ret
  exact ⟨by rw [← hy];rfl,hD.out⟩
end Go.Proofs.YtpfbcepgmigeiaaGreatDoor.Q
end
