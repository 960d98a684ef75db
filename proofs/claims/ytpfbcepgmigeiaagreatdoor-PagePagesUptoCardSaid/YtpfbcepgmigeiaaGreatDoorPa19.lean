/- PART 19 OF A PROOF: Lean functions, and that the program computes them; written by hand and by a program. Not trusted: Lean checks it. -/
import Derived.Test.YtpfbcepgmigeiaaGreatDoorPa8
import Derived.Test.YtpfbcepgmigeiaaGreatDoorPa13
import Derived.Test.YtpfbcepgmigeiaaGreatDoorPa18
set_option linter.unusedVariables false
set_option linter.unusedSimpArgs false
section
namespace Go.Proofs.YtpfbcepgmigeiaaGreatDoor.Q
open Go.RowKit Go.Proofs.YtpfbcepgmigeiaaGreatDoorW.PrintWords Go.Proofs.YtpfbcepgmigeiaaGreatDoorW.PrintLast Go.Proofs.YtpfbcepgmigeiaaGreatDoorW.PrintMore
set_option linter.unusedVariables false
set_option linter.unusedSimpArgs false
open Go.Proofs.YtpfbcepgmigeiaaGreatDoorS
theorem gback_le {H W : Int} {bl ri be : List Bool} {way : Int} (hg : gcheck H W bl ri be = 0) (hb : way = 2 ∨ way = 3) : ∀ (f : Nat) (q : Int),gback H W bl ri be way f q ≤ q
  | 0,q=>Int.le_refl _
  | f + 1,q=>by
    unfold gback
    split
    · rename_i h
      have h1:=gStep_down hg hb h
      have h2:=gback_le hg hb f (gStep H W bl ri be q way).1
      omega
    · exact Int.le_refl _
theorem grun_cons (H W : Int) (bl ri be : List Bool) (way : Int) (f : Nat) (q : Int) : ∃ t,grun H W bl ri be way f q = q :: t:=by
  cases f with
  | zero=>exact ⟨_,rfl⟩
  | succ f =>
    unfold grun
    split
    · exact ⟨_,rfl⟩
    · exact ⟨_,rfl⟩
theorem rrun_facts {H W : Int} {bl ri be : List Bool} {i : Int} (hg : gcheck H W bl ri be = 0) (hi : gopen bl i = true) (dn : Bool) : ∃ f t,rrun H W bl ri be dn i = f :: t ∧ (gbegins H W bl ri be i (if dn then 1 else 0) = true → rrun H W bl ri be dn i = grun H W bl ri be (if dn then 1 else 0) bl.length i ∧ f = i ∧ 0 < t.length) ∧ (gbegins H W bl ri be i (if dn then 1 else 0) = false → f ≠ i ∨ (f = i ∧ t.length = 0)):=by
  obtain ⟨hi0,hi1,_⟩:=gopen_rd hi
  obtain ⟨k,hk⟩ : ∃ k,bl.length = k + 1:=⟨bl.length - 1,by omega⟩
  have key : ∀ (way back : Int),(way = 0 ∧ back = 2) ∨ (way = 1 ∧ back = 3) → ∃ f t,grun H W bl ri be way bl.length (gback H W bl ri be back bl.length i) = f :: t ∧ (gbegins H W bl ri be i way = true → grun H W bl ri be way bl.length (gback H W bl ri be back bl.length i) = grun H W bl ri be way bl.length i ∧ f = i ∧ 0 < t.length) ∧ (gbegins H W bl ri be i way = false → f ≠ i ∨ (f = i ∧ t.length = 0)):=by
    intro way back hwb
    have hb : back = 2 ∨ back = 3:=by omega
    have hwb2 : way + 2 = back:=by omega
    have hgb : gbegins H W bl ri be i way = (!(gStep H W bl ri be i back).2 && (gStep H W bl ri be i way).2):=by unfold gbegins;rw [hwb2]
    cases hs : (gStep H W bl ri be i back).2 with
    | true =>
      have e1 : gback H W bl ri be back bl.length i = gback H W bl ri be back k (gStep H W bl ri be i back).1:=by rw [hk];simp only [gback,hs];rfl
      have h1:=gStep_down hg hb hs
      have h2:=gback_le hg hb k (gStep H W bl ri be i back).1
      obtain ⟨t,ht⟩:=grun_cons H W bl ri be way bl.length (gback H W bl ri be back bl.length i)
      refine ⟨_,t,ht,fun h=>?_,fun _=>.inl (by rw [e1];omega)⟩
      rw [hgb,hs] at h
      cases h
    | false =>
      have e1 : gback H W bl ri be back bl.length i = i:=by rw [hk];simp only [gback,hs];rfl
      rw [e1,hgb,hs,Bool.not_false,Bool.true_and]
      cases hf : (gStep H W bl ri be i way).2 with
      | true =>
        obtain ⟨t,ht⟩:=grun_cons H W bl ri be way k (gStep H W bl ri be i way).1
        have e2 : grun H W bl ri be way bl.length i = i :: (gStep H W bl ri be i way).1 :: t:=by rw [hk,← ht];simp only [grun,hf];rfl
        exact ⟨i,_,e2,fun _=>⟨rfl,rfl,by simp⟩,fun h=>(by cases h)⟩
      | false =>
        have e2 : grun H W bl ri be way bl.length i = [i]:=by rw [hk];simp only [grun,hf];rfl
        exact ⟨i,[],e2,fun h=>(by cases h),fun _=>.inr ⟨rfl,rfl⟩⟩
  unfold rrun backTo
  cases dn with
  | true=>exact key 1 3 (.inr ⟨rfl,rfl⟩)
  | false=>exact key 0 2 (.inl ⟨rfl,rfl⟩)
theorem gslots_one {H W : Int} {bl ri be : List Bool} {i : Nat} {num : Int} (hi : i < bl.length) : gslots H W bl ri be (bl.length - i) i num = (if gbegins H W bl ri be i 0 then [(num + 1,false,grun H W bl ri be 0 bl.length i)] else []) ++ (if gbegins H W bl ri be i 1 then [(num + 1,true,grun H W bl ri be 1 bl.length i)] else []) ++ gslots H W bl ri be (bl.length - (i + 1)) (i + 1) (if gbegins H W bl ri be i 0 || gbegins H W bl ri be i 1 then num + 1 else num):=by
  obtain ⟨d,hd⟩ : ∃ d,bl.length - i = d + 1:=⟨bl.length - i - 1,by omega⟩
  rw [hd,show bl.length - (i + 1) = d by omega]
  rfl
theorem run_apart2 {β : Type} {d : Kd β} {e base : Nat} {w w1 : World} {ok : Nat → Prop} {v v2 : Value} {xs : List β} {ys : List Int} (hS : Kd.S d e w base ok v xs) (hR : Kd.R (Kd.int .i64) 3 w1 w.heap.size (fun _=>True) v2 ys) (hb : Below w.heap.size w w1) : Kd.S d e w1 base (fun k=>ok k ∧ ¬ some k = v2.ownBlock) v xs :=
  Kd.S_mono (Kd.S_below (Kd.S_bound hS) hb) (fun k hk=>⟨hk.1,fun h=>by have:=Kd.R_base hR k h.symm;have:=hk.2.2.1;omega⟩)
set_option maxHeartbeats 8000000 in
set_option maxRecDepth 1000000 in
theorem rebusref07_List.calls {H W : Int} {A2 : Option Addr} {c2 : Nat} {bl : List Bool} {A3 : Option Addr} {c3 : Nat} {ri : List Bool} {A4 : Option Addr} {c4 : Nat} {be : List Bool} {w : World} (h : GridC A2 c2 bl A3 c3 ri A4 c4 be w) :
    Calls Tryz.prog 19 #[.agg #[.int .i64 H,.int .i64 W,.slice A2 bl.length c2,.slice A3 ri.length c3,.slice A4 be.length c4]] w fun e w'=>∃ v,e = .returned v ∧ Kd.S k48 48 w' w.heap.size (fun _=>True) v (slotsOf H W bl ri be) ∧ Below w.heap.size w w':=by
  have hx:=box1 w (.cells #[.int .i64 H,.int .i64 W,.slice A2 bl.length c2,.slice A3 ri.length c3,.slice A4 be.length c4] 24)
  replace hx:=Lib.hid hx
  have hu24:=Tryz.underlying24
  by_cases hg : gcheck H W bl ri be = 0
  · have hd:=Dims.of hg
    obtain ⟨n,hn⟩ : ∃ n,H * W = n:=⟨_,rfl⟩
    have hn1 : n ≤ 256:=by rw [← hn];exact hd.n
    have hbn : (bl.length : Int) = n:=by rw [← hn];exact hd.b
    have hwn : wrap64 (H * W) = n:=by rw [hn];exact w64 (by omega) (by omega)
    obtain ⟨L,hL⟩ : ∃ L,slotsOf H W bl ri be = L:=⟨_,rfl⟩
    have hL0 : L = (gslots H W bl ri be (bl.length - 0) 0 0).map slotOf:=by rw [← hL];unfold slotsOf;rw [if_pos hg];rfl
    rw [hL]
    clear hL hn hd
    replace hg:=Lib.hid hg
    replace hL0:=Lib.hid hL0
    go_enter Tryz.func19,Tryz.ntmps19
    go_wp2_with (first
      | (go_at_call 51;go_must (refine (rebusref05_Check.calls (h.below hx.out.2)).mono ?_;rintro e w3 ⟨rfl,hb3⟩;rw [hg.out];have hB3:=Lib.hid hb3;clear hb3)))
    generalize w.alloc (.cells #[.int .i64 H,.int .i64 W,.slice A2 bl.length c2,.slice A3 ri.length c3,.slice A4 be.length c4] 24) = w1 at hx hB3 ⊢
    go_loopw [3,4,5] (fun v3 v4 v5 wr=>∃ (i : Nat) (q num : Int) (xs : List S48),v5 = .int .i64 q ∧ v4 = .int .i64 num ∧ Hid (q = i ∧ i ≤ bl.length) ∧ Hid (0 ≤ num ∧ num ≤ i ∧ xs.length ≤ 2 * i) ∧ Hid (L = xs ++ (gslots H W bl ri be (bl.length - i) i num).map slotOf) ∧ Hid (Kd.S k48 48 wr w1.heap.size (fun _=>True) v3 xs) ∧ Hid (Below w1.heap.size w1 wr)) (fun _ _ v5 _=>bl.length - (intOf v5).toNat)
    case atStart=>exact ⟨0,0,0,[],rfl,rfl,Lib.hid ⟨rfl,Nat.zero_le _⟩,Lib.hid ⟨by omega,by omega,by simp⟩,Lib.hid (by simpa using hL0.out),Lib.hid (Kd.S_nil _ _ _ _ _),hB3⟩
    case round =>
      clear hB3 hL0
      obtain ⟨i,q,num,xs,rfl,rfl,hq,hnx,he,hS,hB⟩:=hrel
      have hbk:=cells5 (blk_below hx.out.1 hB.out)
      by_cases hlt : i < bl.length
      · have hq0 : 0 ≤ q:=by have:=hq.out;omega
        have hq1 : q < n:=by have:=hq.out;omega
        have hn0 : 0 ≤ num:=hnx.out.1
        have hn2 : num ≤ q:=by have:=hq.out;have:=hnx.out;omega
        obtain ⟨a2,e2,z2⟩:=Kd.at_bool ((h.below hx.out.2).below hB.out).h2 q hq0 (by omega)
        cases e2
        have he2:=he.out
        rw [gslots_one hlt,← hq.out.1] at he2
        obtain ⟨bb,hbb⟩ : ∃ x,rdOf false bl q = x:=⟨_,rfl⟩
        rw [hbb] at z2
        cases bb with
        | true =>
          have hno : gopen bl q = false:=by unfold gopen;have : gat bl q = true:=hbb;rw [this];simp
          have hb0 : gbegins H W bl ri be q 0 = false:=by unfold gbegins gStep;rw [hno];rfl
          have hb1 : gbegins H W bl ri be q 1 = false:=by unfold gbegins gStep;rw [hno];rfl
          rw [hb0,hb1] at he2
          simp only [Bool.false_eq_true,if_false,List.nil_append,Bool.or_self] at he2
          replace he2:=Lib.hid he2
          replace hlt:=Lib.hid hlt
          clear hno hb0 hb1 hbb
          go_wp2
          refine ⟨⟨i + 1,q + 1,num,xs,rfl,rfl,Lib.hid ⟨by have:=hq.out;omega,hlt.out⟩,Lib.hid (by have:=hnx.out;omega),he2,hS,hB⟩,?_⟩
          simp only [intOf];have:=hq.out;have:=hlt.out;omega
        | false =>
          have hop : gopen bl q = true:=by unfold gopen;have : gat bl q = false:=hbb;rw [this,decide_eq_true ⟨hq0,by omega⟩];rfl
          obtain ⟨fA,tA,hA1,hA2,hA3⟩:=rrun_facts (H:=H) (W:=W) (ri:=ri) (be:=be) hg.out hop false
          obtain ⟨fD,tD,hD1,hD2,hD3⟩:=rrun_facts (H:=H) (W:=W) (ri:=ri) (be:=be) hg.out hop true
          simp only [Bool.false_eq_true,if_true,if_false] at hA2 hA3 hD2 hD3
          obtain ⟨LA,hLA⟩ : ∃ LA,rrun H W bl ri be false q = LA:=⟨_,rfl⟩
          obtain ⟨LD,hLD⟩ : ∃ LD,rrun H W bl ri be true q = LD:=⟨_,rfl⟩
          rw [hLA] at hA1 hA2
          rw [hLD] at hD1 hD2
          have hlA : (LA.length : Int) = tA.length + 1:=by rw [hA1];simp
          have hlD : (LD.length : Int) = tD.length + 1:=by rw [hD1];simp
          have rA : rd LA 0 = fA:=by rw [hA1];rfl
          have rD : rd LD 0 = fD:=by rw [hD1];rfl
          have hA0 : 0 < (LA.length : Int):=by omega
          have hD0 : 0 < (LD.length : Int):=by omega
          replace hA1:=Lib.hid hA1
          replace hD1:=Lib.hid hD1
          replace hop:=Lib.hid hop
          replace he2:=Lib.hid he2
          replace hlt:=Lib.hid hlt
          replace hlA:=Lib.hid hlA
          replace hlD:=Lib.hid hlD
          replace rA:=Lib.hid rA
          replace rD:=Lib.hid rD
          replace hLA:=Lib.hid hLA
          replace hLD:=Lib.hid hLD
          replace hA2:=Lib.hid hA2
          replace hA3:=Lib.hid hA3
          replace hD2:=Lib.hid hD2
          replace hD3:=Lib.hid hD3
          have tok1 : True:=trivial
          have tok2 : True:=trivial
          clear hbb
          cases hgA : gbegins H W bl ri be q 0 with
          | true =>
            cases hgD : gbegins H W bl ri be q 1 with
            | true =>
              have xA:=hA2.out hgA
              have t1 : (fA == q) = true:=by rw [xA.2.1];simp
              have t2 : decide (1 < (LA.length : Int)) = true:=decide_eq_true (by have:=hlA.out;have:=xA.2.2;omega)
              replace xA:=Lib.hid xA
              have xD:=hD2.out hgD
              have t3 : (fD == q) = true:=by rw [xD.2.1];simp
              have t4 : decide (1 < (LD.length : Int)) = true:=decide_eq_true (by have:=hlD.out;have:=xD.2.2;omega)
              replace xD:=Lib.hid xD
              have hE : L = (xs ++ [slotOf (num + 1,false,LA)] ++ [slotOf (num + 1,true,LD)]) ++ (gslots H W bl ri be (bl.length - (i + 1)) (i + 1) (num + 1)).map slotOf:=by
                have h1:=he2.out
                rw [hgA,hgD] at h1
                rw [← xA.out.1] at h1
                rw [← xD.out.1] at h1
                rw [h1]
                simp
              replace hE:=Lib.hid hE
              replace hgA:=Lib.hid hgA
              replace hgD:=Lib.hid hgD
              clear he2 he
              go_wp2_with (first
                | (go_at_call 54;have tq:=tok1;go_must (clear tq tok1;refine (rebusref07_run.calls (i:=q) (dn:=false) ((h.below hx.out.2).below hB.out) hg.out hop.out).mono ?_;rintro e w4 ⟨vA,rfl,rowA,hb4⟩;rw [hLA.out] at rowA;obtain ⟨AA,cA,rfl⟩:=Kd.R_slice rowA;have hS4:=Lib.hid (run_apart2 hS.out rowA hb4);have hB4:=Lib.hid (below_step hB.out hb4);obtain ⟨aA,eA,zA⟩:=Kd.at_int (Kd.R_reads' rowA).2.2 0 (Int.le_refl _) hA0;cases eA;rw [rA.out] at zA;have zA : w4.cell? aA = some (.int .i64 fA):=zA;have hbk4:=cells5 (blk_below hx.out.1 hB4.out);have hRA:=Lib.hid (Kd.R_lower rowA (below_size hB.out));clear rowA hb4 hbk))
                | (go_at_call 54;have tq:=tok2;go_must (clear tq tok2;refine (rebusref07_run.calls (i:=q) (dn:=true) ((h.below hx.out.2).below hB4.out) hg.out hop.out).mono ?_;rintro e w5 ⟨vD,rfl,rowD,hb5⟩;rw [hLD.out] at rowD;obtain ⟨AD,cD,rfl⟩:=Kd.R_slice rowD;have hS5:=Lib.hid (run_apart2 hS4.out rowD hb5);have hB5:=Lib.hid (below_step hB4.out hb5);obtain ⟨aD,eD,zD⟩:=Kd.at_int (Kd.R_reads' rowD).2.2 0 (Int.le_refl _) hD0;cases eD;rw [rD.out] at zD;have zD : w5.cell? aD = some (.int .i64 fD):=zD;have zA5:=pw_cell_below hb5 zA;have hRA5:=Lib.hid (Kd.R_below hRA.out hb5);have hAD:=Lib.hid (Kd.R_base rowD);have hAD4:=Lib.hid (Kd.R_lt hRA.out);have hRD:=Lib.hid (Kd.R_lower rowD (below_size hB4.out));clear rowD hb5 zA hbk4 hS4 hRA))
                | ((with_reducible refine gate_builtin (b:=.append) (xs:=#[.tmp 60,.tmp 64]) rfl ?_);go_must (at_builtin;refine Kd.S_append k48 (w0:=w1) w1.heap.size rfl (.tmp 60) (.tmp 64) 44 48 (.agg #[(.int .i64 0),(.bool false),(.slice none 0 0)]) 40 rfl Tryz.underlying44 slot_info rfl (by decide) (by decide) _ (xs) (slotOf (num + 1,false,LA)) [.int .i64 (num + 1),.bool false,.slice (some aA) LA.length cA] (fun k_=>True ∧ ¬ some k_ = (Value.slice (some aD) LD.length cD).ownBlock) (fun k_=>some k_ = (Value.slice (some aA) LA.length cA).ownBlock) rfl rfl ?aP1 ?aK1 ?aF1 ?aO1 ?aB1 ?aS1 ?aL1 ?_;(case aP1=>exact k48_mkM _ _ _ (slotOf (num + 1,false,LA)) (Kd.R_tight rfl hRA5.out));(case aK1=>exact (fun k hk=>⟨⟨trivial,fun e=>by have y1:=Kd.R_lt hRA5.out k hk.symm;have y2:=hAD.out k e.symm;have y3:=hAD4.out k hk.symm;omega⟩,fun e=>((Kd.S_R hS5.out).1 k e.symm).1.2 hk⟩));(case aF1=>exact (fun k hk=>⟨trivial,fun e=>by have:=Kd.R_lt hRD.out k e.symm;omega⟩));(case aO1=>exact (Kd.S_mono hS5.out (fun k hk=>⟨⟨trivial,hk.2⟩,hk.1.2⟩)));(case aB1=>exact hB5.out);(case aS1=>exact (hB5.out).size);(case aL1=>have z1:=hnx.out;have z2:=hq.out;have z3:=hlt.out;(try simp only [List.length_append,List.length_singleton]);omega);intro v6 w6 ho6 hb6 hg6 hat6;have hRD8:=Lib.hid (Kd.R_grown (Kd.R_tight rfl hRD.out) hg6 (fun k hk e=>((Kd.S_R hS5.out).1 k e.symm).2 hk));replace ho6:=Lib.hid ho6;replace hb6:=Lib.hid hb6))
                | ((with_reducible refine gate_builtin (b:=.append) (xs:=#[.tmp 67,.tmp 71]) rfl ?_);go_must (at_builtin;refine Kd.S_append k48 (w0:=w1) w1.heap.size rfl (.tmp 67) (.tmp 71) 44 48 (.agg #[(.int .i64 0),(.bool false),(.slice none 0 0)]) 40 rfl Tryz.underlying44 slot_info rfl (by decide) (by decide) _ (xs ++ [slotOf (num + 1,false,LA)]) (slotOf (num + 1,true,LD)) [.int .i64 (num + 1),.bool true,.slice (some aD) LD.length cD] (fun _=>True) (fun k_=>some k_ = (Value.slice (some aD) LD.length cD).ownBlock) rfl rfl ?aP2 ?aK2 ?aF2 ?aO2 ?aB2 ?aS2 ?aL2 ?_;(case aP2=>exact k48_mkM _ _ _ (slotOf (num + 1,true,LD)) hRD8.out);(case aK2=>exact (fun k hk=>⟨trivial,fun e=>((Kd.S_R ho6.out).1 k e.symm).2 hk⟩));(case aF2=>exact (fun _ _=>trivial));(case aO2=>exact ho6.out);(case aB2=>exact hb6.out);(case aS2=>exact (hb6.out).size);(case aL2=>have z1:=hnx.out;have z2:=hq.out;have z3:=hlt.out;(try simp only [List.length_append,List.length_singleton]);omega);intro v8 w8 ho8 hb8 hg8 hat8)))
              refine ⟨⟨i + 1,q + 1,num + 1,xs ++ [slotOf (num + 1,false,LA)] ++ [slotOf (num + 1,true,LD)],rfl,rfl,Lib.hid ⟨by have:=hq.out;omega,hlt.out⟩,Lib.hid (by have:=hnx.out;have:=hq.out;refine ⟨by omega,by omega,?_⟩;simp only [List.length_append,List.length_singleton];omega),hE,Lib.hid ho8,Lib.hid hb8⟩,?_⟩
              simp only [intOf];have:=hq.out;have:=hlt.out;omega
            | false =>
              have xA:=hA2.out hgA
              have t1 : (fA == q) = true:=by rw [xA.2.1];simp
              have t2 : decide (1 < (LA.length : Int)) = true:=decide_eq_true (by have:=hlA.out;have:=xA.2.2;omega)
              replace xA:=Lib.hid xA
              have hFD : ((fD == q) = false) ∨ ((fD == q) = true ∧ decide (1 < (LD.length : Int)) = false):=by
                rcases hD3.out hgD with h1 | ⟨h1,h2⟩
                · exact .inl (beq_eq_false_iff_ne.2 h1)
                · exact .inr ⟨by rw [h1];simp,decide_eq_false (by have:=hlD.out;omega)⟩
              have hE : L = (xs ++ [slotOf (num + 1,false,LA)]) ++ (gslots H W bl ri be (bl.length - (i + 1)) (i + 1) (num + 1)).map slotOf:=by
                have h1:=he2.out
                rw [hgA,hgD] at h1
                rw [← xA.out.1] at h1
                rw [h1]
                simp
              replace hE:=Lib.hid hE
              replace hgA:=Lib.hid hgA
              replace hgD:=Lib.hid hgD
              clear he2 he
              rcases hFD with t3 | ⟨t3,t4⟩
              all_goals
                go_wp2_with (first
                  | (go_at_call 54;have tq:=tok1;go_must (clear tq tok1;refine (rebusref07_run.calls (i:=q) (dn:=false) ((h.below hx.out.2).below hB.out) hg.out hop.out).mono ?_;rintro e w4 ⟨vA,rfl,rowA,hb4⟩;rw [hLA.out] at rowA;obtain ⟨AA,cA,rfl⟩:=Kd.R_slice rowA;have hS4:=Lib.hid (run_apart2 hS.out rowA hb4);have hB4:=Lib.hid (below_step hB.out hb4);obtain ⟨aA,eA,zA⟩:=Kd.at_int (Kd.R_reads' rowA).2.2 0 (Int.le_refl _) hA0;cases eA;rw [rA.out] at zA;have zA : w4.cell? aA = some (.int .i64 fA):=zA;have hbk4:=cells5 (blk_below hx.out.1 hB4.out);have hRA:=Lib.hid (Kd.R_lower rowA (below_size hB.out));clear rowA hb4 hbk))
                  | (go_at_call 54;have tq:=tok2;go_must (clear tq tok2;refine (rebusref07_run.calls (i:=q) (dn:=true) ((h.below hx.out.2).below hB4.out) hg.out hop.out).mono ?_;rintro e w5 ⟨vD,rfl,rowD,hb5⟩;rw [hLD.out] at rowD;obtain ⟨AD,cD,rfl⟩:=Kd.R_slice rowD;have hS5:=Lib.hid (run_apart2 hS4.out rowD hb5);have hB5:=Lib.hid (below_step hB4.out hb5);obtain ⟨aD,eD,zD⟩:=Kd.at_int (Kd.R_reads' rowD).2.2 0 (Int.le_refl _) hD0;cases eD;rw [rD.out] at zD;have zD : w5.cell? aD = some (.int .i64 fD):=zD;have zA5:=pw_cell_below hb5 zA;have hRA5:=Lib.hid (Kd.R_below hRA.out hb5);have hAD:=Lib.hid (Kd.R_base rowD);have hAD4:=Lib.hid (Kd.R_lt hRA.out);have hRD:=Lib.hid (Kd.R_lower rowD (below_size hB4.out));clear rowD hb5 zA hbk4 hS4 hRA))
                  | ((with_reducible refine gate_builtin (b:=.append) (xs:=#[.tmp 60,.tmp 64]) rfl ?_);go_must (at_builtin;refine Kd.S_append k48 (w0:=w1) w1.heap.size rfl (.tmp 60) (.tmp 64) 44 48 (.agg #[(.int .i64 0),(.bool false),(.slice none 0 0)]) 40 rfl Tryz.underlying44 slot_info rfl (by decide) (by decide) _ (xs) (slotOf (num + 1,false,LA)) [.int .i64 (num + 1),.bool false,.slice (some aA) LA.length cA] (fun _=>True) (fun k_=>some k_ = (Value.slice (some aA) LA.length cA).ownBlock) rfl rfl ?aP1 ?aK1 ?aF1 ?aO1 ?aB1 ?aS1 ?aL1 ?_;(case aP1=>exact k48_mkM _ _ _ (slotOf (num + 1,false,LA)) (Kd.R_tight rfl hRA5.out));(case aK1=>exact (fun k hk=>⟨trivial,fun e=>((Kd.S_R hS5.out).1 k e.symm).1.2 hk⟩));(case aF1=>exact (fun _ _=>trivial));(case aO1=>exact (Kd.S_mono hS5.out (fun k hk=>⟨trivial,hk.1.2⟩)));(case aB1=>exact hB5.out);(case aS1=>exact (hB5.out).size);(case aL1=>have z1:=hnx.out;have z2:=hq.out;have z3:=hlt.out;(try simp only [List.length_append,List.length_singleton]);omega);intro v8 w8 ho8 hb8 hg8 hat8)))
                refine ⟨⟨i + 1,q + 1,num + 1,xs ++ [slotOf (num + 1,false,LA)],rfl,rfl,Lib.hid ⟨by have:=hq.out;omega,hlt.out⟩,Lib.hid (by have:=hnx.out;have:=hq.out;refine ⟨by omega,by omega,?_⟩;simp only [List.length_append,List.length_singleton];omega),hE,Lib.hid ho8,Lib.hid hb8⟩,?_⟩
                simp only [intOf];have:=hq.out;have:=hlt.out;omega
          | false =>
            cases hgD : gbegins H W bl ri be q 1 with
            | true =>
              have hFA : ((fA == q) = false) ∨ ((fA == q) = true ∧ decide (1 < (LA.length : Int)) = false):=by
                rcases hA3.out hgA with h1 | ⟨h1,h2⟩
                · exact .inl (beq_eq_false_iff_ne.2 h1)
                · exact .inr ⟨by rw [h1];simp,decide_eq_false (by have:=hlA.out;omega)⟩
              have xD:=hD2.out hgD
              have t3 : (fD == q) = true:=by rw [xD.2.1];simp
              have t4 : decide (1 < (LD.length : Int)) = true:=decide_eq_true (by have:=hlD.out;have:=xD.2.2;omega)
              replace xD:=Lib.hid xD
              have hE : L = (xs ++ [slotOf (num + 1,true,LD)]) ++ (gslots H W bl ri be (bl.length - (i + 1)) (i + 1) (num + 1)).map slotOf:=by
                have h1:=he2.out
                rw [hgA,hgD] at h1
                rw [← xD.out.1] at h1
                rw [h1]
                simp
              replace hE:=Lib.hid hE
              replace hgA:=Lib.hid hgA
              replace hgD:=Lib.hid hgD
              clear he2 he
              rcases hFA with t1 | ⟨t1,t2⟩
              all_goals
                go_wp2_with (first
                  | (go_at_call 54;have tq:=tok1;go_must (clear tq tok1;refine (rebusref07_run.calls (i:=q) (dn:=false) ((h.below hx.out.2).below hB.out) hg.out hop.out).mono ?_;rintro e w4 ⟨vA,rfl,rowA,hb4⟩;rw [hLA.out] at rowA;obtain ⟨AA,cA,rfl⟩:=Kd.R_slice rowA;have hS4:=Lib.hid (run_apart2 hS.out rowA hb4);have hB4:=Lib.hid (below_step hB.out hb4);obtain ⟨aA,eA,zA⟩:=Kd.at_int (Kd.R_reads' rowA).2.2 0 (Int.le_refl _) hA0;cases eA;rw [rA.out] at zA;have zA : w4.cell? aA = some (.int .i64 fA):=zA;have hbk4:=cells5 (blk_below hx.out.1 hB4.out);have hRA:=Lib.hid (Kd.R_lower rowA (below_size hB.out));clear rowA hb4 hbk))
                  | (go_at_call 54;have tq:=tok2;go_must (clear tq tok2;refine (rebusref07_run.calls (i:=q) (dn:=true) ((h.below hx.out.2).below hB4.out) hg.out hop.out).mono ?_;rintro e w5 ⟨vD,rfl,rowD,hb5⟩;rw [hLD.out] at rowD;obtain ⟨AD,cD,rfl⟩:=Kd.R_slice rowD;have hS5:=Lib.hid (run_apart2 hS4.out rowD hb5);have hB5:=Lib.hid (below_step hB4.out hb5);obtain ⟨aD,eD,zD⟩:=Kd.at_int (Kd.R_reads' rowD).2.2 0 (Int.le_refl _) hD0;cases eD;rw [rD.out] at zD;have zD : w5.cell? aD = some (.int .i64 fD):=zD;have zA5:=pw_cell_below hb5 zA;have hRA5:=Lib.hid (Kd.R_below hRA.out hb5);have hAD:=Lib.hid (Kd.R_base rowD);have hAD4:=Lib.hid (Kd.R_lt hRA.out);have hRD:=Lib.hid (Kd.R_lower rowD (below_size hB4.out));clear rowD hb5 zA hbk4 hS4 hRA))
                  | ((with_reducible refine gate_builtin (b:=.append) (xs:=#[.tmp 67,.tmp 71]) rfl ?_);go_must (at_builtin;refine Kd.S_append k48 (w0:=w1) w1.heap.size rfl (.tmp 67) (.tmp 71) 44 48 (.agg #[(.int .i64 0),(.bool false),(.slice none 0 0)]) 40 rfl Tryz.underlying44 slot_info rfl (by decide) (by decide) _ (xs) (slotOf (num + 1,true,LD)) [.int .i64 (num + 1),.bool true,.slice (some aD) LD.length cD] (fun _=>True) (fun k_=>some k_ = (Value.slice (some aD) LD.length cD).ownBlock) rfl rfl ?aP1 ?aK1 ?aF1 ?aO1 ?aB1 ?aS1 ?aL1 ?_;(case aP1=>exact k48_mkM _ _ _ (slotOf (num + 1,true,LD)) (Kd.R_tight rfl hRD.out));(case aK1=>exact (fun k hk=>⟨trivial,fun e=>((Kd.S_R hS5.out).1 k e.symm).2 hk⟩));(case aF1=>exact (fun _ _=>trivial));(case aO1=>exact (Kd.S_mono hS5.out (fun k hk=>⟨trivial,hk.2⟩)));(case aB1=>exact hB5.out);(case aS1=>exact (hB5.out).size);(case aL1=>have z1:=hnx.out;have z2:=hq.out;have z3:=hlt.out;(try simp only [List.length_append,List.length_singleton]);omega);intro v8 w8 ho8 hb8 hg8 hat8)))
                refine ⟨⟨i + 1,q + 1,num + 1,xs ++ [slotOf (num + 1,true,LD)],rfl,rfl,Lib.hid ⟨by have:=hq.out;omega,hlt.out⟩,Lib.hid (by have:=hnx.out;have:=hq.out;refine ⟨by omega,by omega,?_⟩;simp only [List.length_append,List.length_singleton];omega),hE,Lib.hid ho8,Lib.hid hb8⟩,?_⟩
                simp only [intOf];have:=hq.out;have:=hlt.out;omega
            | false =>
              have hFA : ((fA == q) = false) ∨ ((fA == q) = true ∧ decide (1 < (LA.length : Int)) = false):=by
                rcases hA3.out hgA with h1 | ⟨h1,h2⟩
                · exact .inl (beq_eq_false_iff_ne.2 h1)
                · exact .inr ⟨by rw [h1];simp,decide_eq_false (by have:=hlA.out;omega)⟩
              have hFD : ((fD == q) = false) ∨ ((fD == q) = true ∧ decide (1 < (LD.length : Int)) = false):=by
                rcases hD3.out hgD with h1 | ⟨h1,h2⟩
                · exact .inl (beq_eq_false_iff_ne.2 h1)
                · exact .inr ⟨by rw [h1];simp,decide_eq_false (by have:=hlD.out;omega)⟩
              have hE : L = (xs) ++ (gslots H W bl ri be (bl.length - (i + 1)) (i + 1) (num)).map slotOf:=by
                have h1:=he2.out
                rw [hgA,hgD] at h1
                rw [h1]
                simp
              replace hE:=Lib.hid hE
              replace hgA:=Lib.hid hgA
              replace hgD:=Lib.hid hgD
              clear he2 he
              rcases hFA with t1 | ⟨t1,t2⟩
              all_goals
                rcases hFD with t3 | ⟨t3,t4⟩
                all_goals
                  go_wp2_with (first
                    | (go_at_call 54;have tq:=tok1;go_must (clear tq tok1;refine (rebusref07_run.calls (i:=q) (dn:=false) ((h.below hx.out.2).below hB.out) hg.out hop.out).mono ?_;rintro e w4 ⟨vA,rfl,rowA,hb4⟩;rw [hLA.out] at rowA;obtain ⟨AA,cA,rfl⟩:=Kd.R_slice rowA;have hS4:=Lib.hid (run_apart2 hS.out rowA hb4);have hB4:=Lib.hid (below_step hB.out hb4);obtain ⟨aA,eA,zA⟩:=Kd.at_int (Kd.R_reads' rowA).2.2 0 (Int.le_refl _) hA0;cases eA;rw [rA.out] at zA;have zA : w4.cell? aA = some (.int .i64 fA):=zA;have hbk4:=cells5 (blk_below hx.out.1 hB4.out);have hRA:=Lib.hid (Kd.R_lower rowA (below_size hB.out));clear rowA hb4 hbk))
                    | (go_at_call 54;have tq:=tok2;go_must (clear tq tok2;refine (rebusref07_run.calls (i:=q) (dn:=true) ((h.below hx.out.2).below hB4.out) hg.out hop.out).mono ?_;rintro e w5 ⟨vD,rfl,rowD,hb5⟩;rw [hLD.out] at rowD;obtain ⟨AD,cD,rfl⟩:=Kd.R_slice rowD;have hS5:=Lib.hid (run_apart2 hS4.out rowD hb5);have hB5:=Lib.hid (below_step hB4.out hb5);obtain ⟨aD,eD,zD⟩:=Kd.at_int (Kd.R_reads' rowD).2.2 0 (Int.le_refl _) hD0;cases eD;rw [rD.out] at zD;have zD : w5.cell? aD = some (.int .i64 fD):=zD;have zA5:=pw_cell_below hb5 zA;have hRA5:=Lib.hid (Kd.R_below hRA.out hb5);have hAD:=Lib.hid (Kd.R_base rowD);have hAD4:=Lib.hid (Kd.R_lt hRA.out);have hRD:=Lib.hid (Kd.R_lower rowD (below_size hB4.out));clear rowD hb5 zA hbk4 hS4 hRA)))
                  refine ⟨⟨i + 1,q + 1,num,xs,rfl,rfl,Lib.hid ⟨by have:=hq.out;omega,hlt.out⟩,Lib.hid (by have:=hnx.out;omega),hE,Lib.hid (Kd.S_mono hS5.out (fun _ _=>trivial)),hB5⟩,?_⟩
                  simp only [intOf];have:=hq.out;have:=hlt.out;omega
      · have hge : ¬ q < n:=by have:=hq.out;omega
        have hE : L = xs:=by rw [he.out,show bl.length - i = 0 by have:=hq.out;omega];simp [gslots]
        replace hE:=Lib.hid hE
        go_wp2
        go_ret
        refine ⟨_,rfl,?_,below_step hx.out.2 hB.out⟩
        rw [hE.out]
        exact Kd.S_lower hS.out (below_size hx.out.2)
  · have tg : (gcheck H W bl ri be != 0) = true:=bne_iff_ne.2 hg
    have hL : slotsOf H W bl ri be = []:=by unfold slotsOf;rw [if_neg hg]
    rw [hL]
    clear hL
    go_enter Tryz.func19,Tryz.ntmps19
    go_wp2_with (first
      | (go_at_call 51;go_must (refine (rebusref05_Check.calls (h.below hx.out.2)).mono ?_;rintro e w3 ⟨rfl,hb3⟩)))
    go_ret
    exact ⟨_,rfl,Kd.S_nil _ _ _ _ _,below_step hx.out.2 hb3⟩
end Go.Proofs.YtpfbcepgmigeiaaGreatDoor.Q
end
section
namespace Go.Proofs.YtpfbcepgmigeiaaGreatDoor.Q
open Go.RowKit Go.Proofs.YtpfbcepgmigeiaaGreatDoorW.PrintWords Go.Proofs.YtpfbcepgmigeiaaGreatDoorW.PrintLast Go.Proofs.YtpfbcepgmigeiaaGreatDoorW.PrintMore
set_option linter.unusedVariables false
set_option linter.unusedSimpArgs false
open Go.Proofs.YtpfbcepgmigeiaaGreatDoorS
theorem PuzR.gridC {A2 : Option Addr} {c2 : Nat} {bl : List Bool} {A3 : Option Addr} {c3 : Nat} {ri : List Bool} {A4 : Option Addr} {c4 : Nat} {be : List Bool} {A5 : Option Addr} {c5 : Nat} {cells : List ByteArray} {A6 : Option Addr} {c6 : Nat} {clues : List ByteArray} {w : World} (h : PuzR A2 c2 bl A3 c3 ri A4 c4 be A5 c5 cells A6 c6 clues w) : GridC A2 c2 bl A3 c3 ri A4 c4 be w:=⟨h.r2,h.r3,h.r4⟩
theorem rebusref21_Line.calls2 (s : ByteArray) (hz : s.size ≤ 1048576) (w : World) : Calls Tryz.prog 53 #[.string s] w fun e w'=>e = .returned (.bool (uline s)) ∧ Below w.heap.size w w':=by
  have h:=line_eq s hz (2 * s.size + 21) (by omega)
  rw [rline_eq] at h
  exact rebusref21_Line.calls _ _ _ _ h
set_option maxHeartbeats 8000000 in
set_option maxRecDepth 1000000 in
theorem rebusref21_Check.calls {title : ByteArray} {H W : Int} {A2 : Option Addr} {c2 : Nat} {bl : List Bool} {A3 : Option Addr} {c3 : Nat} {ri : List Bool} {A4 : Option Addr} {c4 : Nat} {be : List Bool} {A5 : Option Addr} {c5 : Nat} {cells : List ByteArray} {A6 : Option Addr} {c6 : Nat} {clues : List ByteArray} {w : World} (hP : PuzR A2 c2 bl A3 c3 ri A4 c4 be A5 c5 cells A6 c6 clues w) (hz : PuzS title cells clues) :
    Calls Tryz.prog 18 #[.agg #[.string title,.int .i64 H,.int .i64 W,.slice A2 bl.length c2,.slice A3 ri.length c3,.slice A4 be.length c4,.slice A5 cells.length c5,.slice A6 clues.length c6]] w fun e w'=>e = .returned (.int .i64 (pcheck title H W bl ri be cells clues)) ∧ Below w.heap.size w w':=by
  have hx:=box1 w (.cells #[.string title,.int .i64 H,.int .i64 W,.slice A2 bl.length c2,.slice A3 ri.length c3,.slice A4 be.length c4,.slice A5 cells.length c5,.slice A6 clues.length c6] 27)
  replace hx:=Lib.hid hx
  have hu27:=Tryz.underlying27
  have hu24:=Tryz.underlying24
  by_cases hg : gcheck H W bl ri be = 0
  · have hd:=Dims.of hg
    obtain ⟨n,hn⟩ : ∃ n,H * W = n:=⟨_,rfl⟩
    have hn1 : n ≤ 256:=by rw [← hn];exact hd.n
    have hbn : (bl.length : Int) = n:=by rw [← hn];exact hd.b
    have hwn : wrap64 (H * W) = n:=by rw [hn];exact w64 (by omega) (by omega)
    clear hn hd
    replace hz:=Lib.hid hz
    by_cases hs : cells.length = bl.length
    · have t1 : ((cells.length : Int) != n) = false:=by rw [hs,hbn];simp
      have hv : pcheck title H W bl ri be cells clues = (if pbad bl cells cells.length 0 then 33 else if clues.length = (slotsOf H W bl ri be).length then (if (clues ++ [title]).all uline then 0 else 221) else 160):=by unfold pcheck;rw [if_pos hg,if_pos hs]
      rw [hv]
      clear hv
      obtain ⟨V,hV0⟩ : ∃ V,(if pbad bl cells cells.length 0 then (33 : Int) else if clues.length = (slotsOf H W bl ri be).length then (if (clues ++ [title]).all uline then 0 else 221) else 160) = V:=⟨_,rfl⟩
      rw [hV0]
      replace hV0:=Lib.hid hV0
      replace hg:=Lib.hid hg
      replace hs:=Lib.hid hs
      go_enter Tryz.func18,Tryz.ntmps18
      go_wp2_with (first
        | (go_at_call 51;go_must (refine (rebusref05_Check.calls (hP.below hx.out.2).gridC).mono ?_;rintro e w3 ⟨rfl,hb3⟩;rw [hg.out];have hB3:=Lib.hid (below_step hx.out.2 hb3);have bP:=Lib.hid (blk_below hx.out.1 hb3);have p3:=cells8 bP.out;clear hb3)))
      rw [hwn]
      go_loopw [4] (fun v4 wr=>∃ (i : Nat) (q : Int),v4 = .int .i64 q ∧ Hid (q = i ∧ i ≤ cells.length) ∧ Hid (pbad bl cells cells.length 0 = pbad bl cells (cells.length - i) i) ∧ Hid (wr.heap[w.heap.size]? = some (.cells #[.string title,.int .i64 H,.int .i64 W,.slice A2 bl.length c2,.slice A3 ri.length c3,.slice A4 be.length c4,.slice A5 cells.length c5,.slice A6 clues.length c6] 27 (0,0))) ∧ Hid (Below w.heap.size w wr)) (fun v4 _=>cells.length - (intOf v4).toNat)
      case atStart=>exact ⟨0,0,rfl,Lib.hid ⟨rfl,Nat.zero_le _⟩,Lib.hid rfl,bP,hB3⟩
      case round =>
        clear hB3 bP p3 hwn t1 hbn hn1
        obtain ⟨i,q,rfl,hq,hpb,bP,hB⟩:=hrel
        have p4:=cells8 bP.out
        have y4:=blk_lt bP.out
        by_cases hlt : i < cells.length
        · have hq0 : 0 ≤ q:=by have:=hq.out;omega
          have hq1 : q < (cells.length : Int):=by have:=hq.out;omega
          have hq2 : q < (bl.length : Int):=by have:=hs.out;omega
          have hq3 : q < 1048576:=by have:=hz.out.l;omega
          obtain ⟨ad,eA,zx⟩:=Kd.at_string (hP.below hB.out).r5 q hq0 hq1
          obtain ⟨ad2,eA2,zb⟩:=Kd.at_bool (hP.below hB.out).r2 q hq0 hq2
          cases eA
          cases eA2
          obtain ⟨xa,hxa⟩ : ∃ x,rdOf ByteArray.empty cells q = x:=⟨_,rfl⟩
          obtain ⟨bb,hbb⟩ : ∃ x,rdOf false bl q = x:=⟨_,rfl⟩
          have hxs : xa.size ≤ 1048576:=by rw [← hxa,hq.out.1];exact hz.out.s.rd hlt
          have hst:=pbad_step (bl:=bl) (cells:=cells) hlt
          have e1 : pbad1 bl cells i = (!xa.toList.isEmpty && (bb || !uletter xa)):=by unfold pbad1;rw [← hq.out.1,hxa,hbb]
          rw [e1] at hst
          rw [hxa] at zx
          rw [hbb] at zb
          clear hxa hbb e1
          by_cases hne : xa.toList = []
          · have te : xa.toList.isEmpty = true:=by rw [hne];rfl
            rw [te] at hst
            have hE : pbad bl cells cells.length 0 = pbad bl cells (cells.length - (i + 1)) (i + 1):=by rw [hpb.out,hst];rfl
            replace hE:=Lib.hid hE
            replace hlt:=Lib.hid hlt
            clear hst hne hpb
            go_wp2
            refine ⟨⟨i + 1,q + 1,rfl,Lib.hid ⟨by have:=hq.out;omega,hlt.out⟩,hE,bP,hB⟩,?_⟩
            simp only [intOf];have:=hq.out;have:=hlt.out;omega
          · have te : xa.toList.isEmpty = false:=toList_nil.2 hne
            rw [te] at hst
            clear hne
            cases bb with
            | true =>
              have hE : pbad bl cells cells.length 0 = true:=by rw [hpb.out,hst];rfl
              rw [hE] at hpb
              replace hE:=Lib.hid hE
              clear hst hpb
              go_wp2
              go_ret
              exact ⟨by rw [← hV0.out,hE.out];rfl,hB.out⟩
            | false =>
              cases hle : uletter xa with
              | false =>
                have hE : pbad bl cells cells.length 0 = true:=by rw [hpb.out,hst,hle];rfl
                replace hE:=Lib.hid hE
                replace hle:=Lib.hid hle
                clear hst hpb
                go_wp2_with (first
                  | (go_at_call 52;go_must (refine (rebusref21_Letter.calls xa hxs _).mono ?_;rintro e w5 ⟨rfl,hb5⟩;rw [hle.out])))
                go_ret
                exact ⟨by rw [← hV0.out,hE.out];rfl,below_step hB.out hb5⟩
              | true =>
                have hE : pbad bl cells cells.length 0 = pbad bl cells (cells.length - (i + 1)) (i + 1):=by rw [hpb.out,hst,hle];rfl
                replace hE:=Lib.hid hE
                replace hle:=Lib.hid hle
                replace hlt:=Lib.hid hlt
                clear hst hpb
                go_wp2_with (first
                  | (go_at_call 52;go_must (refine (rebusref21_Letter.calls xa hxs _).mono ?_;rintro e w5 ⟨rfl,hb5⟩;rw [hle.out])))
                refine ⟨⟨i + 1,q + 1,rfl,Lib.hid ⟨by have:=hq.out;omega,hlt.out⟩,hE,Lib.hid (blk_below bP.out hb5),Lib.hid (below_step hB.out hb5)⟩,?_⟩
                simp only [intOf];have:=hq.out;have:=hlt.out;omega
        · have hge : ¬ q < (cells.length : Int):=by have:=hq.out;omega
          have hE : pbad bl cells cells.length 0 = false:=by rw [hpb.out,show cells.length - i = 0 by have:=hq.out;omega];rfl
          clear hpb
          obtain ⟨L,hL⟩ : ∃ L,slotsOf H W bl ri be = L:=⟨_,rfl⟩
          replace hE:=Lib.hid hE
          replace hL:=Lib.hid hL
          obtain ⟨q0,q1,q2,q3,q4,q5,q6,q7⟩:=p4
          go_wp2
          refine wp_region_noPanic ?_
          refine wp_region_held_drew (S:=(fun w'=>w'.cell? ⟨w.heap.size,1,none⟩ = some (.int .i64 H) ∧ w'.cell? ⟨w.heap.size,2,none⟩ = some (.int .i64 W) ∧ w'.cell? ⟨w.heap.size,3,none⟩ = some (.slice A2 bl.length c2) ∧ w'.cell? ⟨w.heap.size,4,none⟩ = some (.slice A3 ri.length c3) ∧ w'.cell? ⟨w.heap.size,5,none⟩ = some (.slice A4 be.length c4) ∧ w'.cell? ⟨w.heap.size,7,none⟩ = some (.slice A6 clues.length c6))) (by kernel_rfl) ?s1 (fun hHeld=>?_)
          case s1=>((try dsimp only);go_keep)
          refine wpAnyH_take (i:=0) (oi:=?q0oi) (v:=?q0v) ?q0ho ?q0k1 ?q0k2 ?q0k3 (fun _ _ _ h=>h) (Or.inl ⟨?q0kw,?q0hy⟩) hHeld ?q0rest
          case q0ho=>exact at_ops0 _ _
          case q0k1=>kernel_rfl
          case q0k2=>kernel_rfl
          case q0k3=>kernel_rfl
          case q0kw=>rfl
          case q0hy=>(intro w9 hS9;(try dsimp only at hS9);go_simp;try with_reducible rfl)
          try simp only [Act.put,List.setIfInBounds_toArray,List.set_cons_zero,List.set_cons_succ]
          refine wpAnyH_take (i:=1) (oi:=?q1oi) (v:=?q1v) ?q1ho ?q1k1 ?q1k2 ?q1k3 (fun _ _ _ h=>h) (Or.inl ⟨?q1kw,?q1hy⟩) hHeld ?q1rest
          case q1ho=>exact at_ops1 _ _ _
          case q1k1=>kernel_rfl
          case q1k2=>kernel_rfl
          case q1k3=>kernel_rfl
          case q1kw=>rfl
          case q1hy=>(intro w9 hS9;(try dsimp only at hS9);go_simp;try with_reducible rfl)
          try simp only [Act.put,List.setIfInBounds_toArray,List.set_cons_zero,List.set_cons_succ]
          refine wpAnyH_take (i:=2) (oi:=?q2oi) (v:=?q2v) ?q2ho ?q2k1 ?q2k2 ?q2k3 (fun _ _ _ h=>h) (Or.inl ⟨?q2kw,?q2hy⟩) hHeld ?q2rest
          case q2ho=>exact at_ops2 _ _ _ _
          case q2k1=>kernel_rfl
          case q2k2=>kernel_rfl
          case q2k3=>kernel_rfl
          case q2kw=>rfl
          case q2hy=>(intro w9 hS9;(try dsimp only at hS9);go_simp;try with_reducible rfl)
          try simp only [Act.put,List.setIfInBounds_toArray,List.set_cons_zero,List.set_cons_succ]
          refine wpAnyH_take (i:=3) (oi:=?q3oi) (v:=?q3v) ?q3ho ?q3k1 ?q3k2 ?q3k3 (fun _ _ _ h=>h) (Or.inl ⟨?q3kw,?q3hy⟩) hHeld ?q3rest
          case q3ho=>exact at_ops3 _ _ _ _ _
          case q3k1=>kernel_rfl
          case q3k2=>kernel_rfl
          case q3k3=>kernel_rfl
          case q3kw=>rfl
          case q3hy=>(intro w9 hS9;(try dsimp only at hS9);go_simp;try with_reducible rfl)
          try simp only [Act.put,List.setIfInBounds_toArray,List.set_cons_zero,List.set_cons_succ]
          refine wpAnyH_take (i:=4) (oi:=?q4oi) (v:=?q4v) ?q4ho ?q4k1 ?q4k2 ?q4k3 (fun _ _ _ h=>h) (Or.inl ⟨?q4kw,?q4hy⟩) hHeld ?q4rest
          case q4ho=>exact at_ops4 _ _ _ _ _ _
          case q4k1=>kernel_rfl
          case q4k2=>kernel_rfl
          case q4k3=>kernel_rfl
          case q4kw=>rfl
          case q4hy=>(intro w9 hS9;(try dsimp only at hS9);go_simp;try with_reducible rfl)
          try simp only [Act.put,List.setIfInBounds_toArray,List.set_cons_zero,List.set_cons_succ]
          refine wpAnyH_ready (rs:=[5]) (by kernel_rfl) (by simp) ?_
          refine AllReadyH.cons (at_ops5 _ _ _ _ _ _ _) (fun K hK=>?_) AllReadyH.nil
          go_simp
          (go_at_call 19;refine (rebusref07_List.calls (hP.below (below_drew hB.out)).gridC).mono ?_;rintro e w6 ⟨vL,rfl,hLr,hbL⟩;rw [hL.out] at hLr;obtain ⟨AL,cL,rfl⟩:=Kd.S_slice hLr)
          refine hK.out _ _ ?r5 (fun hHeld=>?_)
          case r5=>exact ⟨pw_cell_below hbL q1,pw_cell_below hbL q2,pw_cell_below hbL q3,pw_cell_below hbL q4,pw_cell_below hbL q5,pw_cell_below hbL q7⟩
          clear hK K
          try simp only [Act.put,List.setIfInBounds_toArray,List.set_cons_zero,List.set_cons_succ]
          refine wpAnyH_take (i:=6) (oi:=?q6oi) (v:=?q6v) ?q6ho ?q6k1 ?q6k2 ?q6k3 (fun _ _ _ h=>h) (Or.inl ⟨?q6kw,?q6hy⟩) hHeld ?q6rest
          case q6ho=>exact at_ops6 _ _ _ _ _ _ _ _
          case q6k1=>kernel_rfl
          case q6k2=>kernel_rfl
          case q6k3=>kernel_rfl
          case q6kw=>rfl
          case q6hy=>(intro w9 hS9;(try dsimp only at hS9);go_simp;try with_reducible rfl)
          try simp only [Act.put,List.setIfInBounds_toArray,List.set_cons_zero,List.set_cons_succ]
          refine wpAnyH_take (i:=7) (oi:=?q7oi) (v:=?q7v) ?q7ho ?q7k1 ?q7k2 ?q7k3 (fun _ _ _ h=>h) (Or.inl ⟨?q7kw,?q7hy⟩) hHeld ?q7rest
          case q7ho=>exact at_ops7 _ _ _ _ _ _ _ _ _
          case q7k1=>kernel_rfl
          case q7k2=>kernel_rfl
          case q7k3=>kernel_rfl
          case q7kw=>rfl
          case q7hy=>(intro w9 hS9;(try dsimp only at hS9);go_simp;try with_reducible rfl)
          try simp only [Act.put,List.setIfInBounds_toArray,List.set_cons_zero,List.set_cons_succ]
          refine wpAnyH_done (by kernel_rfl) ?_ _
          refine NoPanic.normal ?_
          clear q0 q1 q2 q3 q4 q5 q6 q7
          have hB6:=Lib.hid (below_step (below_drew hB.out) hbL)
          have bP6:=Lib.hid (blk_below (blk_drew bP.out) hbL)
          have p6:=cells8 bP6.out
          clear hLr hbL
          by_cases hcl : clues.length = L.length
          · have t5 : ((clues.length : Int) != (L.length : Int)) = false:=by rw [hcl];simp
            have t5b : (clues.length != L.length) = false:=by rw [hcl];simp
            have hV : V = (if uline title && clues.all uline then 0 else 221):=by
              rw [← hV0.out,hE.out,hL.out,if_pos hcl,List.all_append]
              simp only [Bool.false_eq_true,if_false,List.all_cons,List.all_nil,Bool.and_true]
              rw [Bool.and_comm]
            replace hV:=Lib.hid hV
            replace hcl:=Lib.hid hcl
            cases hti : uline title with
            | false =>
              have hV2:=hV.out
              rw [hti] at hV2
              replace hV2:=Lib.hid hV2
              go_wp2_with (first
                | (go_at_call 53;go_must (refine (rebusref21_Line.calls2 title hz.out.t _).mono ?_;rintro e w7 ⟨rfl,hb7⟩;rw [hti])))
              go_ret
              exact ⟨by first | (rw [hV2.out];done) | (rw [hV2.out];rfl) | rfl,below_step hB6.out hb7⟩
            | true =>
              have hV2:=hV.out
              rw [hti,Bool.true_and] at hV2
              replace hV2:=Lib.hid hV2
              replace hti:=Lib.hid hti
              clear hV
              go_wp2_with (first
                | (go_at_call 53;go_must (refine (rebusref21_Line.calls2 title hz.out.t _).mono ?_;rintro e w7 ⟨rfl,hb7⟩;rw [hti.out];have hB7:=Lib.hid (below_step hB6.out hb7);have bP7:=Lib.hid (blk_below bP6.out hb7);have p7:=cells8 bP7.out;clear hb7 p6)))
              clear p7
              go_hide hQ
              go_loopw [5] (fun v5 wi=>∃ (j : Nat) (x : Int),v5 = .int .i64 x ∧ Hid (x = j ∧ j ≤ clues.length) ∧ Hid (clues.all uline = (clues.drop j).all uline) ∧ Hid (wi.heap[w.heap.size]? = some (.cells #[.string title,.int .i64 H,.int .i64 W,.slice A2 bl.length c2,.slice A3 ri.length c3,.slice A4 be.length c4,.slice A5 cells.length c5,.slice A6 clues.length c6] 27 (0,0))) ∧ Hid (Below w.heap.size w wi)) (fun v5 _=>clues.length - (intOf v5).toNat)
              case atStart=>exact ⟨0,0,rfl,Lib.hid ⟨rfl,Nat.zero_le _⟩,Lib.hid (by rw [List.drop_zero]),bP7,hB7⟩
              case round =>
                clear hB7 bP7 hB6 bP6
                obtain ⟨j,x,rfl,hj,ha,bPi,hBi⟩:=hrel
                have pi:=cells8 bPi.out
                by_cases hjl : j < clues.length
                · have hx0 : 0 ≤ x:=by have:=hj.out;omega
                  have hx1 : x < (clues.length : Int):=by have:=hj.out;omega
                  have hx3 : x < 1048576:=by have:=hz.out.m;omega
                  obtain ⟨ad,eA,zx⟩:=Kd.at_string (hP.below hBi.out).r6 x hx0 hx1
                  cases eA
                  obtain ⟨xa,hxa⟩ : ∃ y,rdOf ByteArray.empty clues x = y:=⟨_,rfl⟩
                  have hxs : xa.size ≤ 1048576:=by rw [← hxa,hj.out.1];exact hz.out.c.rd hjl
                  have e1 : clues[j] = xa:=by rw [← hxa,hj.out.1];simp [rdOf,List.getD_eq_getElem?_getD,hjl]
                  have ha2 : clues.all uline = (uline xa && (clues.drop (j + 1)).all uline):=by rw [ha.out,List.drop_eq_getElem_cons hjl,List.all_cons,e1]
                  rw [hxa] at zx
                  clear hxa e1 ha
                  cases hli : uline xa with
                  | false =>
                    have hE2 : clues.all uline = false:=by rw [ha2,hli];rfl
                    have hV3:=hV2.out
                    rw [hE2] at hV3
                    replace hV3:=Lib.hid hV3
                    replace hli:=Lib.hid hli
                    clear ha2 hE2 hV2
                    go_wp2_with (first
                      | (go_at_call 53;go_must (refine (rebusref21_Line.calls2 xa hxs _).mono ?_;rintro e w8 ⟨rfl,hb8⟩;rw [hli.out])))
                    subst hQ
                    go_wp2
                    go_ret
                    exact ⟨by first | (rw [hV3.out];done) | (rw [hV3.out];rfl) | rfl,below_step hBi.out hb8⟩
                  | true =>
                    have hE2 : clues.all uline = (clues.drop (j + 1)).all uline:=by rw [ha2,hli];rfl
                    replace hE2:=Lib.hid hE2
                    replace hli:=Lib.hid hli
                    replace hjl:=Lib.hid hjl
                    clear ha2
                    go_wp2_with (first
                      | (go_at_call 53;go_must (refine (rebusref21_Line.calls2 xa hxs _).mono ?_;rintro e w8 ⟨rfl,hb8⟩;rw [hli.out])))
                    refine ⟨⟨j + 1,x + 1,rfl,Lib.hid ⟨by have:=hj.out;omega,hjl.out⟩,hE2,Lib.hid (blk_below bPi.out hb8),Lib.hid (below_step hBi.out hb8)⟩,?_⟩
                    simp only [intOf];have:=hj.out;have:=hjl.out;omega
                · have hge2 : ¬ x < (clues.length : Int):=by have:=hj.out;omega
                  have hE2 : clues.all uline = true:=by rw [ha.out,List.drop_of_length_le (by omega)];rfl
                  have hV3:=hV2.out
                  rw [hE2] at hV3
                  replace hV3:=Lib.hid hV3
                  clear hE2 hV2 ha
                  go_wp2
                  subst hQ
                  go_wp2
                  go_ret
                  exact ⟨by first | (rw [hV3.out];done) | (rw [hV3.out];rfl) | rfl,hBi.out⟩
          · have t5 : ((clues.length : Int) != (L.length : Int)) = true:=bne_iff_ne.2 (by omega)
            have t5b : (clues.length != L.length) = true:=by simpa using hcl
            have hV : V = 160:=by
              rw [← hV0.out,hE.out,hL.out,if_neg hcl]
              rfl
            replace hV:=Lib.hid hV
            replace hcl:=Lib.hid hcl
            go_wp2
            go_ret
            exact ⟨by first | (rw [hV.out];done) | (rw [hV.out];rfl) | rfl,hB6.out⟩
    · have t1 : ((cells.length : Int) != n) = true:=bne_iff_ne.2 (by omega)
      have hv : pcheck title H W bl ri be cells clues = 51:=by unfold pcheck;rw [if_pos hg,if_neg hs]
      rw [hv]
      clear hv
      replace hg:=Lib.hid hg
      go_enter Tryz.func18,Tryz.ntmps18
      go_wp2_with (first
        | (go_at_call 51;go_must (refine (rebusref05_Check.calls (hP.below hx.out.2).gridC).mono ?_;rintro e w3 ⟨rfl,hb3⟩;rw [hg.out];have hB3:=Lib.hid (below_step hx.out.2 hb3);have bP:=Lib.hid (blk_below hx.out.1 hb3);have p3:=cells8 bP.out;clear hb3)))
      go_ret
      exact ⟨rfl,hB3.out⟩
  · have tg : (gcheck H W bl ri be != 0) = true:=bne_iff_ne.2 hg
    have hv : pcheck title H W bl ri be cells clues = gcheck H W bl ri be:=by unfold pcheck;rw [if_neg hg]
    rw [hv]
    clear hv hz
    go_enter Tryz.func18,Tryz.ntmps18
    go_wp2_with (first
      | (go_at_call 51;go_must (refine (rebusref05_Check.calls (hP.below hx.out.2).gridC).mono ?_;rintro e w3 ⟨rfl,hb3⟩;have hB3:=Lib.hid (below_step hx.out.2 hb3);have bP:=Lib.hid (blk_below hx.out.1 hb3);have p3:=cells8 bP.out;clear hb3)))
    go_ret
    exact ⟨rfl,hB3.out⟩
end Go.Proofs.YtpfbcepgmigeiaaGreatDoor.Q
end
