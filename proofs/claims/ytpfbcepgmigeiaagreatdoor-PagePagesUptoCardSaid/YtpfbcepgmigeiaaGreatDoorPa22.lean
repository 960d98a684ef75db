/- PART 22 OF A PROOF: Lean functions, and that the program computes them; written by hand and by a program. Not trusted: Lean checks it. -/
import Derived.Test.YtpfbcepgmigeiaaGreatDoorPa11
import Derived.Test.YtpfbcepgmigeiaaGreatDoorPa13
import Derived.Test.YtpfbcepgmigeiaaGreatDoorPa15
import Derived.Test.YtpfbcepgmigeiaaGreatDoorPa19
import Derived.Test.YtpfbcepgmigeiaaGreatDoorPa21
set_option linter.unusedVariables false
set_option linter.unusedSimpArgs false
section
namespace Go.Proofs.YtpfbcepgmigeiaaGreatDoor.Q
open Go.RowKit Go.Shelf Go.Lib Go.Proofs.YtpfbcepgmigeiaaGreatDoorW.PrintWords Go.Proofs.YtpfbcepgmigeiaaGreatDoorW.PrintLast Go.Proofs.YtpfbcepgmigeiaaGreatDoorW.PrintMore
set_option linter.unusedVariables false
set_option linter.unusedSimpArgs false
open Go.Proofs.YtpfbcepgmigeiaaGreatDoorS
theorem ba_len9 (s : ByteArray) : s.data.toList.length = s.size:=by rw [Array.length_toList];rfl
set_option maxHeartbeats 8000000 in
set_option maxRecDepth 1000000 in
theorem page2_bad {title : ByteArray} {H W : Int} {A2 : Option Addr} {c2 : Nat} {bl : List Bool} {A3 : Option Addr} {c3 : Nat} {ri : List Bool} {A4 : Option Addr} {c4 : Nat} {be : List Bool} {A5 : Option Addr} {c5 : Nat} {cells : List ByteArray} {A6 : Option Addr} {c6 : Nat} {clues : List ByteArray} {w : World} (hP : PuzR A2 c2 bl A3 c3 ri A4 c4 be A5 c5 cells A6 c6 clues w) (hz : PuzS title cells clues) {er : Int} (hp : pcheck title H W bl ri be cells clues = er) (he : er ≠ 0) (width : Int) :
    Calls Tryz.prog 10 #[.agg #[.string title,.int .i64 H,.int .i64 W,.slice A2 bl.length c2,.slice A3 ri.length c3,.slice A4 be.length c4,.slice A5 cells.length c5,.slice A6 clues.length c6],.int .i64 width] w fun e w'=>e = .returned (.tuple #[.string ⟨#[]⟩,.int .i64 er]) ∧ Below w.heap.size w w':=by
  have hx:=box1 w (.cells #[.string title,.int .i64 H,.int .i64 W,.slice A2 bl.length c2,.slice A3 ri.length c3,.slice A4 be.length c4,.slice A5 cells.length c5,.slice A6 clues.length c6] 27)
  have px:=cells8 hx.1
  replace hx:=Lib.hid hx
  replace hp:=Lib.hid hp
  have hu27:=Tryz.underlying27
  have hu24:=Tryz.underlying24
  have te : (er != 0) = true:=bne_iff_ne.2 he
  go_enter Tryz.func10,Tryz.ntmps10
  go_wp2_with (go_at_call 26;go_must (refine (draw2_bad (hP.below hx.out.2) hz hp.out he).mono ?_;rintro e w3 ⟨rfl,hb3⟩))
  go_ret2
  exact ⟨rfl,below_step hx.out.2 hb3⟩
set_option maxHeartbeats 8000000 in
set_option maxRecDepth 1000000 in
theorem page2_wide {title : ByteArray} {H W : Int} {A2 : Option Addr} {c2 : Nat} {bl : List Bool} {A3 : Option Addr} {c3 : Nat} {ri : List Bool} {A4 : Option Addr} {c4 : Nat} {be : List Bool} {A5 : Option Addr} {c5 : Nat} {cells : List ByteArray} {A6 : Option Addr} {c6 : Nat} {clues : List ByteArray} {w : World} (hP : PuzR A2 c2 bl A3 c3 ri A4 c4 be A5 c5 cells A6 c6 clues w) (hz : PuzS title cells clues) (hp : pcheck title H W bl ri be cells clues = 0) (width : Int) (hw : width < 10 ∨ 120 < width) :
    Calls Tryz.prog 10 #[.agg #[.string title,.int .i64 H,.int .i64 W,.slice A2 bl.length c2,.slice A3 ri.length c3,.slice A4 be.length c4,.slice A5 cells.length c5,.slice A6 clues.length c6],.int .i64 width] w fun e w'=>e = .returned (.tuple #[.string ⟨#[]⟩,.int .i64 200]) ∧ Below w.heap.size w w':=by
  have hx:=box1 w (.cells #[.string title,.int .i64 H,.int .i64 W,.slice A2 bl.length c2,.slice A3 ri.length c3,.slice A4 be.length c4,.slice A5 cells.length c5,.slice A6 clues.length c6] 27)
  have px:=cells8 hx.1
  replace hx:=Lib.hid hx
  replace hp:=Lib.hid hp
  have hu27:=Tryz.underlying27
  have hu24:=Tryz.underlying24
  have t0 : ((0 : Int) != 0) = false:=rfl
  replace hw:=Lib.hid hw
  go_enter Tryz.func10,Tryz.ntmps10
  go_wp2_with (first
    | (go_at_call 26;go_must (refine (draw2_ok (hP.below hx.out.2) hz hp.out).mono ?_;rintro e w3 ⟨vD,rfl,-,hb3⟩;have P3:=Lib.hid (blk_below hx.out.1 hb3);have p3:=cells8 P3.out;have B3:=Lib.hid (below_step hx.out.2 hb3);clear hb3))
    | (go_at_call 7;go_must (refine (clues2_wide (hP.below B3.out) hz hp.out false width hw.out).mono ?_;rintro e w4 ⟨rfl,hb4⟩;have B4:=Lib.hid (below_step B3.out hb4);clear hb4)))
  go_ret2
  exact ⟨rfl,B4.out⟩
set_option maxHeartbeats 16000000 in
set_option maxRecDepth 1000000 in
theorem page2_ok {title : ByteArray} {H W : Int} {A2 : Option Addr} {c2 : Nat} {bl : List Bool} {A3 : Option Addr} {c3 : Nat} {ri : List Bool} {A4 : Option Addr} {c4 : Nat} {be : List Bool} {A5 : Option Addr} {c5 : Nat} {cells : List ByteArray} {A6 : Option Addr} {c6 : Nat} {clues : List ByteArray} {w : World} (hP : PuzR A2 c2 bl A3 c3 ri A4 c4 be A5 c5 cells A6 c6 clues w) (hz : PuzS title cells clues) (hp : pcheck title H W bl ri be cells clues = 0) {width : Int} (hw1 : 10 ≤ width) (hw2 : width ≤ 120) :
    Calls Tryz.prog 10 #[.agg #[.string title,.int .i64 H,.int .i64 W,.slice A2 bl.length c2,.slice A3 ri.length c3,.slice A4 be.length c4,.slice A5 cells.length c5,.slice A6 clues.length c6],.int .i64 width] w fun e w'=>e = .returned (.tuple #[.string (pageB title H W bl ri be cells clues width),.int .i64 0]) ∧ Below w.heap.size w w':=by
  obtain ⟨z1,z2,z3,z4⟩:=page_sizes hp hw1
  obtain ⟨za1,za2⟩:=z4 false
  obtain ⟨zd1,zd2⟩:=z4 true
  clear z4
  have hpB : pageB title H W bl ri be cells clues width = ⟨(catNL (pageL title (drawB H W bl ri be cells) (cluesB H W bl ri be clues false width) (cluesB H W bl ri be clues true width))).toArray⟩:=rfl
  have hdk:=fun (w2 : World) (p2 : PuzR A2 c2 bl A3 c3 ri A4 c4 be A5 c5 cells A6 c6 clues w2)=>draw2_ok p2 hz hp
  have hak:=fun (w2 : World) (p2 : PuzR A2 c2 bl A3 c3 ri A4 c4 be A5 c5 cells A6 c6 clues w2)=>clues2_ok p2 hz hp false hw1 hw2
  have hnk:=fun (w2 : World) (p2 : PuzR A2 c2 bl A3 c3 ri A4 c4 be A5 c5 cells A6 c6 clues w2)=>clues2_ok p2 hz hp true hw1 hw2
  obtain ⟨LD,hLD⟩ : ∃ l,drawB H W bl ri be cells = l:=⟨_,rfl⟩
  obtain ⟨LA,hLA⟩ : ∃ l,cluesB H W bl ri be clues false width = l:=⟨_,rfl⟩
  obtain ⟨LN,hLN⟩ : ∃ l,cluesB H W bl ri be clues true width = l:=⟨_,rfl⟩
  rw [hLD] at z2 z3 hpB hdk
  rw [hLA] at za1 za2 hpB hak
  rw [hLN] at zd1 zd2 hpB hnk
  rw [hpB]
  clear hpB
  have hcT : (catNL [title]).length ≤ 961:=by have:=catNL_len (n:=960) [title] (fun x hx=>by rw [List.mem_singleton.1 hx];exact z1);simpa using this
  have hcA : (catNL [(⟨#[65,99,114,111,115,115]⟩ : ByteArray)]).length ≤ 7:=by decide
  have hcN : (catNL [(⟨#[68,111,119,110]⟩ : ByteArray)]).length ≤ 5:=by decide
  obtain ⟨X,hX⟩ : ∃ X,(if title.size = 0 then [] else [title]) = X:=⟨_,rfl⟩
  obtain ⟨Y,hY⟩ : ∃ Y,(if LA.length = 0 then [] else [acrossB] ++ LA) = Y:=⟨_,rfl⟩
  obtain ⟨Z,hZ⟩ : ∃ Z,(if LN.length = 0 then [] else [downB] ++ LN) = Z:=⟨_,rfl⟩
  have fT : (title.toList = [] ∧ title.toList.isEmpty = true ∧ Hid (X = [])) ∨ (¬ title.toList = [] ∧ title.toList.isEmpty = false ∧ Hid (X = [title])):=by
    by_cases h : title.size = 0
    · have h1 : title.toList = []:=by rw [Lib.toList_data];exact List.eq_nil_of_length_eq_zero h
      exact .inl ⟨h1,(by rw [h1];rfl),Lib.hid (by rw [← hX,if_pos h])⟩
    · have h1 : title.toList.isEmpty = false:=nonempty_list (fun h2=>h (by rw [h2];rfl))
      exact .inr ⟨(fun h2=>by rw [h2] at h1;cases h1),h1,Lib.hid (by rw [← hX,if_neg h])⟩
  have fA : (decide ((0 : Int) < (LA.length : Int)) = false ∧ ¬ 0 < LA.length ∧ Hid (Y = [])) ∨ (decide ((0 : Int) < (LA.length : Int)) = true ∧ 0 < LA.length ∧ Hid (Y = [(⟨#[65,99,114,111,115,115]⟩ : ByteArray)] ++ LA)):=by
    by_cases h : LA.length = 0
    · exact .inl ⟨decide_eq_false (by omega),by omega,Lib.hid (by rw [← hY,if_pos h])⟩
    · exact .inr ⟨decide_eq_true (by omega),by omega,Lib.hid (by rw [← hY,if_neg h];rfl)⟩
  have fN : (decide ((0 : Int) < (LN.length : Int)) = false ∧ ¬ 0 < LN.length ∧ Hid (Z = [])) ∨ (decide ((0 : Int) < (LN.length : Int)) = true ∧ 0 < LN.length ∧ Hid (Z = [(⟨#[68,111,119,110]⟩ : ByteArray)] ++ LN)):=by
    by_cases h : LN.length = 0
    · exact .inl ⟨decide_eq_false (by omega),by omega,Lib.hid (by rw [← hZ,if_pos h])⟩
    · exact .inr ⟨decide_eq_true (by omega),by omega,Lib.hid (by rw [← hZ,if_neg h];rfl)⟩
  obtain ⟨LL,hLL⟩ : ∃ l,X ++ LD ++ Y ++ Z = l:=⟨_,rfl⟩
  have hXYZ : pageL title LD LA LN = LL:=by unfold pageL;rw [hX,hY,hZ,hLL]
  rw [hXYZ]
  have hLb : (catNL LL).length ≤ 30000000000 ∧ LL.length ≤ 5000000:=by
    rw [← hLL]
    simp only [catNL_append,List.length_append]
    rcases fT with ⟨-,-,eX⟩ | ⟨-,-,eX⟩ <;> rcases fA with ⟨-,-,eY⟩ | ⟨-,-,eY⟩ <;> rcases fN with ⟨-,-,eZ⟩ | ⟨-,-,eZ⟩ <;> rw [eX.out,eY.out,eZ.out] <;> simp only [catNL_append,List.length_append,List.length_nil,List.length_cons,show (catNL []).length = 0 from rfl] <;> omega
  obtain ⟨hLb1,hLb2⟩:=hLb
  clear hXYZ hX hY hZ
  have hx:=box1 w (.cells #[.string title,.int .i64 H,.int .i64 W,.slice A2 bl.length c2,.slice A3 ri.length c3,.slice A4 be.length c4,.slice A5 cells.length c5,.slice A6 clues.length c6] 27)
  have px:=cells8 hx.1
  replace hx:=Lib.hid hx
  replace hp:=Lib.hid hp
  replace hdk:=Lib.hid hdk
  replace hak:=Lib.hid hak
  replace hnk:=Lib.hid hnk
  replace hLD:=Lib.hid hLD
  replace hLA:=Lib.hid hLA
  replace hLN:=Lib.hid hLN
  replace hLL:=Lib.hid hLL
  have hu27:=Tryz.underlying27
  have hu24:=Tryz.underlying24
  have t0 : ((0 : Int) != 0) = false:=rfl
  have tok1 : True:=trivial
  rcases fT with ⟨tT,tT2,eX⟩ | ⟨tT,tT2,eX⟩ <;> rcases fA with ⟨tA,tA2,eY⟩ | ⟨tA,tA2,eY⟩ <;> rcases fN with ⟨tN,tN2,eZ⟩ | ⟨tN,tN2,eZ⟩
  all_goals
    have hLk:=hLL.out
    rw [eX.out,eY.out,eZ.out] at hLk
    try simp only [List.append_assoc,List.nil_append,List.append_nil] at hLk
    replace hLk:=Lib.hid hLk
    go_enter Tryz.func10,Tryz.ntmps10
    go_wp2_with (first
      | (go_at_call 26;go_must (refine (hdk.out _ (hP.below hx.out.2)).mono ?_;rintro e w3 ⟨vD,rfl,RD,hb3⟩;obtain ⟨Aq,cq,rfl⟩:=Kd.R_slice RD;replace RD:=Lib.hid (Kd.R_lower RD hx.out.2.size);have P3:=Lib.hid (blk_below hx.out.1 hb3);have p3:=cells8 P3.out;have B3:=Lib.hid (below_step hx.out.2 hb3);clear hb3))
      | (go_at_call 7;have tq:=tok1;go_must (clear tq tok1;refine (hak.out _ (hP.below B3.out)).mono ?_;rintro e w4 ⟨vA,rfl,RA,hb4⟩;obtain ⟨AA,cA,rfl⟩:=Kd.R_slice RA;replace RA:=Lib.hid (Kd.R_lower (Kd.R_newR RA RD.out) B3.out.size);have P4:=Lib.hid (blk_below P3.out hb4);have p4:=cells8 P4.out;replace RD:=Lib.hid (Kd.R_below RD.out hb4);have B4:=Lib.hid (below_step B3.out hb4);clear hb4 p3 P3))
      | (go_at_call 7;go_must (refine (hnk.out _ (hP.below B4.out)).mono ?_;rintro e w5 ⟨vN,rfl,RN,hb5⟩;obtain ⟨AN,cN,rfl⟩:=Kd.R_slice RN;replace RN:=Lib.hid (Kd.R_lower (Kd.R_newR RN RD.out) B4.out.size);replace RD:=Lib.hid (Kd.R_below RD.out hb5);replace RA:=Lib.hid (Kd.R_below RA.out hb5);have P5:=Lib.hid (blk_below P4.out hb5);have p5:=cells8 P5.out;have HB:=Lib.hid (below_step B4.out hb5);clear hb5 p4 P4 B4))
      | ((with_reducible refine gate_builtin (b:=.append) (xs:=#[.tmp 41,.tmp 42]) rfl ?_);go_must (at_builtin;have D8:=below_alloc (Below.refl w5.heap.size w5) (.cells #[.string title] 9);have RL:=Kd.R_lower (lit_one w5 title) HB.out.size;replace RD:=Lib.hid (Kd.R_below RD.out D8);replace RA:=Lib.hid (Kd.R_mono (Kd.R_below (Kd.R_elderB RA.out w5.heap.size (Nat.le_refl _)) D8) (ok':=fun k=>True ∧ some k ≠ (Value.slice (some ⟨w5.heap.size,0,none⟩) 1 1).ownBlock) (fun k hk=>⟨trivial,fun he=>hk.2 (by simpa [Value.ownBlock] using he)⟩));replace RN:=Lib.hid (Kd.R_mono (Kd.R_below (Kd.R_elderB RN.out w5.heap.size (Nat.le_refl _)) D8) (ok':=fun k=>True ∧ some k ≠ (Value.slice (some ⟨w5.heap.size,0,none⟩) 1 1).ownBlock) (fun k hk=>⟨trivial,fun he=>hk.2 (by simpa [Value.ownBlock] using he)⟩));replace HB:=Lib.hid (below_step HB.out D8);clear D8;refine Kd.R_append_rows Kd.string (w0:=w) w.heap.size rfl (.tmp 41) (.tmp 42) 25 9 (.string ⟨#[]⟩) 16 rfl Tryz.underlying25 str_info rfl (by decide) (by decide) _ [title] LD _ _ _ (fun _=>True) (fun _=>False) rfl rfl RL (Kd.R_reads' RD.out).2.2 (fun _ _ h=>h) (fun _ hk=>hk.elim) (fun _ _=>trivial) HB.out HB.out.size ?aL ?_;(case aL=>((try simp only [List.length_append,List.length_cons,List.length_nil]);omega));clear RL;intro v w9 R9 hb hg ha;obtain ⟨Aq,nq,cq,rfl⟩:=R_slice3 R9;have RDn:=Lib.hid R9;have RAn:=Lib.hid (Kd.R_after RA.out hg ha);have RNn:=Lib.hid (Kd.R_after RN.out hg ha);have HBn:=Lib.hid hb;clear R9 RD RA RN HB hb hg ha;have RD:=RDn;have RA:=RAn;have RN:=RNn;have HB:=HBn;clear RDn RAn RNn HBn))
      | ((with_reducible refine gate_builtin (b:=.append) (xs:=#[.tmp 47,.tmp 48]) rfl ?_);go_must (at_builtin;refine Kd.R_append Kd.string (w0:=w) w.heap.size rfl (.tmp 47) (.tmp 48) 25 9 (.string ⟨#[]⟩) 16 rfl Tryz.underlying25 str_info rfl (by decide) (by decide) _ _ (⟨#[65,99,114,111,115,115]⟩ : ByteArray) [.string (⟨#[65,99,114,111,115,115]⟩ : ByteArray)] (fun _=>True) (fun _=>False) rfl ?hx rfl (fun _ hk=>hk.elim) (fun _ _=>trivial) RD.out HB.out HB.out.size ?aL ?_;(case hx=>first | rfl | (go_simp;done) | (go_simp;rfl));(case aL=>((try simp only [List.length_append,List.length_cons,List.length_nil]);omega));intro v w9 R9 hb hg ha;obtain ⟨Aq,nq,cq,rfl⟩:=R_slice3 R9;have RDn:=Lib.hid R9;have RAn:=Lib.hid (Kd.R_after RA.out hg ha);have RNn:=Lib.hid (Kd.R_after RN.out hg ha);have HBn:=Lib.hid hb;clear R9 RD RA RN HB hb hg ha;have RD:=RDn;have RA:=RAn;have RN:=RNn;have HB:=HBn;clear RDn RAn RNn HBn))
      | ((with_reducible refine gate_builtin (b:=.append) (xs:=#[.tmp 49,.tmp 50]) rfl ?_);go_must (at_builtin;refine Kd.R_append_rows Kd.string (w0:=w) w.heap.size rfl (.tmp 49) (.tmp 50) 25 9 (.string ⟨#[]⟩) 16 rfl Tryz.underlying25 str_info rfl (by decide) (by decide) _ _ LA _ _ _ (fun _=>True) (fun _=>False) rfl rfl RD.out (Kd.R_reads' RA.out).2.2 (fun _ _ h=>h) (fun _ hk=>hk.elim) (fun _ _=>trivial) HB.out HB.out.size ?aL ?_;(case aL=>((try simp only [List.length_append,List.length_cons,List.length_nil]);omega));intro v w9 R9 hb hg ha;obtain ⟨Aq,nq,cq,rfl⟩:=R_slice3 R9;have RDn:=Lib.hid R9;have RAn:=Lib.hid (Kd.R_after RA.out hg ha);have RNn:=Lib.hid (Kd.R_after RN.out hg ha);have HBn:=Lib.hid hb;clear R9 RD RA RN HB hb hg ha;have RD:=RDn;have RA:=RAn;have RN:=RNn;have HB:=HBn;clear RDn RAn RNn HBn))
      | ((with_reducible refine gate_builtin (b:=.append) (xs:=#[.tmp 55,.tmp 56]) rfl ?_);go_must (at_builtin;refine Kd.R_append Kd.string (w0:=w) w.heap.size rfl (.tmp 55) (.tmp 56) 25 9 (.string ⟨#[]⟩) 16 rfl Tryz.underlying25 str_info rfl (by decide) (by decide) _ _ (⟨#[68,111,119,110]⟩ : ByteArray) [.string (⟨#[68,111,119,110]⟩ : ByteArray)] (fun _=>True) (fun _=>False) rfl ?hx rfl (fun _ hk=>hk.elim) (fun _ _=>trivial) RD.out HB.out HB.out.size ?aL ?_;(case hx=>first | rfl | (go_simp;done) | (go_simp;rfl));(case aL=>((try simp only [List.length_append,List.length_cons,List.length_nil]);omega));intro v w9 R9 hb hg ha;obtain ⟨Aq,nq,cq,rfl⟩:=R_slice3 R9;have RDn:=Lib.hid R9;have RAn:=Lib.hid (Kd.R_after RA.out hg ha);have RNn:=Lib.hid (Kd.R_after RN.out hg ha);have HBn:=Lib.hid hb;clear R9 RD RA RN HB hb hg ha;have RD:=RDn;have RA:=RAn;have RN:=RNn;have HB:=HBn;clear RDn RAn RNn HBn))
      | ((with_reducible refine gate_builtin (b:=.append) (xs:=#[.tmp 57,.tmp 58]) rfl ?_);go_must (at_builtin;refine Kd.R_append_rows Kd.string (w0:=w) w.heap.size rfl (.tmp 57) (.tmp 58) 25 9 (.string ⟨#[]⟩) 16 rfl Tryz.underlying25 str_info rfl (by decide) (by decide) _ _ LN _ _ _ (fun _=>True) (fun _=>False) rfl rfl RD.out (Kd.R_reads' RN.out).2.2 (fun _ _ h=>h) (fun _ hk=>hk.elim) (fun _ _=>trivial) HB.out HB.out.size ?aL ?_;(case aL=>((try simp only [List.length_append,List.length_cons,List.length_nil]);omega));intro v w9 R9 hb hg ha;obtain ⟨Aq,nq,cq,rfl⟩:=R_slice3 R9;have RDn:=Lib.hid R9;have RAn:=Lib.hid (Kd.R_after RA.out hg ha);have RNn:=Lib.hid (Kd.R_after RN.out hg ha);have HBn:=Lib.hid hb;clear R9 RD RA RN HB hb hg ha;have RD:=RDn;have RA:=RAn;have RN:=RNn;have HB:=HBn;clear RDn RAn RNn HBn)))
    have RQ:=RD.out
    try simp only [List.append_assoc,List.nil_append,List.append_nil] at RQ
    rw [hLk.out] at RQ
    try rw [hLk.out]
    have hqn:=(Kd.R_reads' RQ).1
    try rw [hqn] at RQ ⊢
    replace RQ:=Lib.hid RQ
    replace hqn:=Lib.hid hqn
    clear RD RA RN
    go_loopw [11,12] (fun v11 v12 wr=>∃ (k : Nat) (q : Int) (s : ByteArray),v11 = .string s ∧ v12 = .int .i64 q ∧ Hid (q = k ∧ k ≤ LL.length) ∧ Hid (s.data.toList = catNL (LL.take k)) ∧ Hid (Kd.R Kd.string 9 wr w.heap.size (fun _=>True) (.slice Aq LL.length cq) LL) ∧ Hid (Below w.heap.size w wr)) (fun _ v12 _=>LL.length - (intOf v12).toNat)
    case atStart=>exact ⟨0,0,⟨#[]⟩,rfl,rfl,Lib.hid ⟨rfl,Nat.zero_le _⟩,Lib.hid rfl,RQ,HB⟩
    case round =>
      clear RQ HB
      obtain ⟨k,q,s,rfl,rfl,hq,hs,RQ,HB⟩:=hrel
      have hq0 : 0 ≤ q:=by have:=hq.out;omega
      have hsz : s.size ≤ 30000000000:=by have h1:=congrArg List.length hs.out;have h2:=catNL_take_len LL k;rw [ba_len9] at h1;omega
      by_cases hk : k < LL.length
      · have tk : decide (q < (LL.length : Int)) = true:=decide_eq_true (by have:=hq.out;omega)
        have hq1 : q < (LL.length : Int):=by have:=hq.out;omega
        obtain ⟨ad,eA,z⟩:=Kd.at_string (Kd.R_reads' RQ.out).2.2 q hq0 hq1
        cases eA
        have hsn:=catNL_snoc hk
        have hl9:=catNL_take_len LL (k + 1)
        rw [← hq.out.1,← hs.out] at hsn
        obtain ⟨x,hxx⟩ : ∃ x,rdOf ByteArray.empty LL q = x:=⟨_,rfl⟩
        rw [hxx] at hsn z
        have hnew : (s ++ x ++ ⟨#[10]⟩ : ByteArray).data.toList = catNL (LL.take (k + 1)):=by rw [hsn,bap,bap]
        have hxz : s.size + x.size + 1 ≤ 30000000000:=by
          have h1:=congrArg List.length hsn
          rw [List.length_append,List.length_append,ba_len9,ba_len9,List.length_singleton] at h1
          omega
        have big1 : ¬ 9223372036854775807 < s.size + x.size:=by omega
        have big2 : ¬ 9223372036854775807 < s.size + x.size + 1:=by omega
        have eqq : wrap64 (q + 1) = q + 1:=w64 (by omega) (by omega)
        replace hnew:=Lib.hid hnew
        replace hxx:=Lib.hid hxx
        clear hsn hl9
        go_wp2
        refine ⟨⟨k + 1,q + 1,s ++ x ++ ⟨#[10]⟩,rfl,(by first | rfl | exact congrArg (Value.int .i64) eqq),Lib.hid ⟨by have:=hq.out;omega,hk⟩,hnew,RQ,HB⟩,?_⟩
        simp only [intOf];have:=hq.out;omega
      · have tk : decide (q < (LL.length : Int)) = false:=decide_eq_false (by have:=hq.out;omega)
        have hs2:=hs.out
        rw [List.take_of_length_le (by omega)] at hs2
        have hE : s = ⟨(catNL LL).toArray⟩:=by rw [← hs2]
        replace hE:=Lib.hid hE
        go_wp2
        go_ret2
        exact ⟨by rw [hE.out];rfl,HB.out⟩
end Go.Proofs.YtpfbcepgmigeiaaGreatDoor.Q
end
section
namespace Go.Proofs.YtpfbcepgmigeiaaGreatDoor.Q
open Go.RowKit Go.Proofs.YtpfbcepgmigeiaaGreatDoorW.PrintWords Go.Proofs.YtpfbcepgmigeiaaGreatDoorW.PrintLast Go.Proofs.YtpfbcepgmigeiaaGreatDoorW.PrintMore
set_option linter.unusedVariables false
set_option linter.unusedSimpArgs false
open Go.Proofs.YtpfbcepgmigeiaaGreatDoorS
def kRow : List Bool:=List.replicate 2 false
def kCells : List ByteArray:=[⟨#[67]⟩,⟨#[67,72]⟩]
def kClue : ByteArray:=⟨#[79,108,100,32,99,97,114,32,40,50,41]⟩
def aLines : List ByteArray:=[⟨#[43,45,45,45,43,45,45,45,43]⟩,⟨#[124,49,32,32,124,32,32,32,124]⟩,⟨#[124,32,67,32,124,32,67,72,124]⟩,⟨#[43,45,45,45,43,45,45,45,43]⟩]
theorem kcheck : pcheck ⟨#[]⟩ 1 2 kRow kRow kRow kCells [kClue] = 0:=by decide +kernel
theorem kslots : slotsOf 1 2 kRow kRow kRow = [⟨1,false,[0,1]⟩]:=by kernel_rfl
theorem kitoa : itoaB 1 = ⟨#[49]⟩:=by
  have e : Lib.itoa 1 = [49]:=by
    unfold Lib.itoa
    rw [if_neg (by decide)]
    show Lib.decDigits 1 = _
    rw [Lib.decDigits,dif_pos (by decide)]
    rfl
  unfold itoaB
  rw [e]
theorem knums : pnums (slotsOf 1 2 kRow kRow kRow) 2 = [⟨#[49]⟩,⟨#[]⟩]:=by
  rw [kslots]
  show (List.replicate 2 (⟨#[]⟩ : ByteArray)).set 0 (itoaB 1) = _
  rw [kitoa]
  rfl
theorem kdraw : drawB 1 2 kRow kRow kRow kCells = aLines:=by
  unfold drawB
  rw [show kCells.length = 2 from rfl,knums]
  decide +kernel
theorem ksmall {l : List ByteArray} (h : l.all (fun s=>decide (s.size ≤ 1048576)) = true) : Small l:=fun s hs=>of_decide_eq_true (List.all_eq_true.1 h s hs)
theorem kz : PuzS ⟨#[]⟩ kCells [kClue]:=⟨by decide,ksmall (by decide +kernel),ksmall (by decide +kernel),by decide,by decide⟩
def awake21.T1 : Bool × List (List Nat × List Nat):=(true,[([],[]),([],[]),([],[]),([0,1,2],[0,1,2]),([],[]),([],[]),([3,4,5],[3,4,5]),([6],[6]),([7],[7]),([8],[8]),([8],[8]),([9,7,0,1,2,3,4,5,6,7,8,9],[9]),([10,11,0,1,2,3,4,5,6,7,8,9,10,11],[10])])
def awake21.B1 : List Nat:=[0,0,0,7,0,0,63,127,255,511,511,1023,4095]
theorem awake21.tab1 : rtab .any (opsOf Tryz.f4 1) = awake21.T1:=by kernel_rfl
theorem awake21.bits1 : waitsOk awake21.T1.2 awake21.B1 = true:=by kernel_rfl
set_option maxHeartbeats 8000000 in
set_option maxRecDepth 1000000 in
theorem rebuslaw21_awake.calls {w : World} (hT : Tabs w) : Calls Tryz.prog 4 #[] w fun e w'=>e = .returned (.bool true) ∧ Below w.heap.size w w':=by
  have hu27:=Tryz.underlying27
  have hu24:=Tryz.underlying24
  go_enter Tryz.func4,Tryz.ntmps4
  go_wp2
  have HB:=below_drew (Below.refl w.heap.size w)
  obtain ⟨g,hg⟩ : ∃ g,w.heap.size = g:=⟨_,rfl⟩
  refine start_ (n:=13) (S:=fun w'=>True) (ds:=[]) #[false,false,false,false,false,false,false,false,false,false,false,false,false] (by kernel_rfl) rfl rfl trivial (fun hHeld=>?_)
  refine with_tabW awake21.tab1 awake21.bits1 (fun HT_ HW_=>?_)
  generalize w.drew = w3 at HB hHeld ⊢
  rw [hg] at HB
  refine inv_at [0,1,2,3,4,5,6,7,8,9,10,11,12] (fun a0_ b a w'=>∃ v0 v1 v2 m3 v3 v4 m6 m7 m8 m9 m10 m11 m12 vl : Value,a = putSel a0_ b [(0,4,v0),(1,5,v1),(2,6,v2),(3,7,m3),(4,8,v3),(5,9,v4),(6,10,m6),(7,11,m7),(8,3,m8),(9,12,m9),(10,13,m10),(11,1,m11),(12,2,m12)] ∧ Below g w w' ∧ (b 0 = true → Kd.R Kd.bool 4 w' g (fun _=>True) v0 kRow) ∧ (b 1 = true → Kd.R Kd.bool 4 w' g (fun _=>True) v1 kRow) ∧ (b 2 = true → Kd.R Kd.bool 4 w' g (fun _=>True) v2 kRow) ∧ (b 4 = true → Kd.R Kd.string 9 w' g (fun _=>True) v3 kCells) ∧ (b 5 = true → Kd.R Kd.string 9 w' g (fun _=>True) v4 [kClue]) ∧ (b 7 = true → Kd.R Kd.string 9 w' g (fun _=>True) vl aLines) ∧ (b 3 = true → m3 = .agg #[.int .i64 1,.int .i64 2,v0,v1,v2]) ∧ (b 6 = true → m6 = .agg #[.string (⟨#[]⟩ : ByteArray),.int .i64 1,.int .i64 2,v0,v1,v2,v3,v4]) ∧ (b 7 = true → m7 = .tuple #[vl,.int .i64 0]) ∧ (b 8 = true → m8 = .tuple #[vl,.int .i64 0]) ∧ (b 9 = true → m9 = vl) ∧ (b 10 = true → m10 = .int .i64 0) ∧ (b 11 = true → m11 = vl) ∧ (b 12 = true → m12 = .int .i64 0)) HT_.out HW_.out (by kernel_rfl) (by kernel_rfl) ?_ ?_ ?_
  · exact ⟨.bool false,.bool false,.bool false,.bool false,.bool false,.bool false,.bool false,.bool false,.bool false,.bool false,.bool false,.bool false,.bool false,.bool false,by simp only [putSel,Bool.false_eq_true,if_false],HB,fun h_=>absurd h_ (by decide),fun h_=>absurd h_ (by decide),fun h_=>absurd h_ (by decide),fun h_=>absurd h_ (by decide),fun h_=>absurd h_ (by decide),fun h_=>absurd h_ (by decide),fun h_=>absurd h_ (by decide),fun h_=>absurd h_ (by decide),fun h_=>absurd h_ (by decide),fun h_=>absurd h_ (by decide),fun h_=>absurd h_ (by decide),fun h_=>absurd h_ (by decide),fun h_=>absurd h_ (by decide),fun h_=>absurd h_ (by decide)⟩
  · clear HB
    refine steps_cons ?_ ?_
    · rintro b a w' ⟨v0,v1,v2,m3,v3,v4,m6,m7,m8,m9,m10,m11,m12,vl,ha,QH,R0,R1,R2,R4,R5,R7,X3,X6,X7,X8,X9,X10,X11,X12⟩ hb_ hon hoff
      refine ⟨_,rfl,fun K hK=>?_⟩
      have hsz : g ≤ w'.heap.size:=by rw [← hg];exact QH.size
      refine Kd.R_make_step Kd.bool _ 4 (by rfl) (N:=4) rfl 22 _ _ rfl 2 rfl rfl Tryz.underlying22 (.bool false) 1 bool_info rfl (by decide) (by decide) false (ok:=fun _=>True) (okp:=fun _=>True) rfl (fun _ hk=>hk) trivial (by decide) (by decide) (Below.refl _ _) (Nat.le_refl _) ?_
      intro v0 w4 ho hb _ _
      refine hK.out _ _ ⟨v0,v1,v2,m3,v3,v4,m6,m7,m8,m9,m10,m11,m12,vl,(by rw [ha];exact putSel_upk 0 hb_ rfl rfl rfl),QH.trans (hb.mono hsz),fun _=>Kd.R_lower ho hsz,fun h_=>Kd.R_below (R1 h_) hb,fun h_=>Kd.R_below (R2 h_) hb,fun h_=>Kd.R_below (R4 h_) hb,fun h_=>Kd.R_below (R5 h_) hb,fun h_=>absurd ((hoff 7 (by kernel_rfl)).symm.trans h_) (by decide),fun h_=>absurd ((hoff 3 (by kernel_rfl)).symm.trans h_) (by decide),fun h_=>absurd ((hoff 6 (by kernel_rfl)).symm.trans h_) (by decide),fun h_=>absurd ((hoff 7 (by kernel_rfl)).symm.trans h_) (by decide),fun h_=>absurd ((hoff 8 (by kernel_rfl)).symm.trans h_) (by decide),fun h_=>absurd ((hoff 9 (by kernel_rfl)).symm.trans h_) (by decide),fun h_=>absurd ((hoff 10 (by kernel_rfl)).symm.trans h_) (by decide),fun h_=>absurd ((hoff 11 (by kernel_rfl)).symm.trans h_) (by decide),fun h_=>absurd ((hoff 12 (by kernel_rfl)).symm.trans h_) (by decide)⟩
    refine steps_cons ?_ ?_
    · rintro b a w' ⟨v0,v1,v2,m3,v3,v4,m6,m7,m8,m9,m10,m11,m12,vl,ha,QH,R0,R1,R2,R4,R5,R7,X3,X6,X7,X8,X9,X10,X11,X12⟩ hb_ hon hoff
      refine ⟨_,rfl,fun K hK=>?_⟩
      have hsz : g ≤ w'.heap.size:=by rw [← hg];exact QH.size
      refine Kd.R_make_step Kd.bool _ 4 (by rfl) (N:=5) rfl 22 _ _ rfl 2 rfl rfl Tryz.underlying22 (.bool false) 1 bool_info rfl (by decide) (by decide) false (ok:=fun _=>True) (okp:=fun _=>True) rfl (fun _ hk=>hk) trivial (by decide) (by decide) (Below.refl _ _) (Nat.le_refl _) ?_
      intro v1 w4 ho hb _ _
      refine hK.out _ _ ⟨v0,v1,v2,m3,v3,v4,m6,m7,m8,m9,m10,m11,m12,vl,(by rw [ha];exact putSel_upk 1 hb_ rfl rfl rfl),QH.trans (hb.mono hsz),fun h_=>Kd.R_below (R0 h_) hb,fun _=>Kd.R_lower ho hsz,fun h_=>Kd.R_below (R2 h_) hb,fun h_=>Kd.R_below (R4 h_) hb,fun h_=>Kd.R_below (R5 h_) hb,fun h_=>absurd ((hoff 7 (by kernel_rfl)).symm.trans h_) (by decide),fun h_=>absurd ((hoff 3 (by kernel_rfl)).symm.trans h_) (by decide),fun h_=>absurd ((hoff 6 (by kernel_rfl)).symm.trans h_) (by decide),fun h_=>absurd ((hoff 7 (by kernel_rfl)).symm.trans h_) (by decide),fun h_=>absurd ((hoff 8 (by kernel_rfl)).symm.trans h_) (by decide),fun h_=>absurd ((hoff 9 (by kernel_rfl)).symm.trans h_) (by decide),fun h_=>absurd ((hoff 10 (by kernel_rfl)).symm.trans h_) (by decide),fun h_=>absurd ((hoff 11 (by kernel_rfl)).symm.trans h_) (by decide),fun h_=>absurd ((hoff 12 (by kernel_rfl)).symm.trans h_) (by decide)⟩
    refine steps_cons ?_ ?_
    · rintro b a w' ⟨v0,v1,v2,m3,v3,v4,m6,m7,m8,m9,m10,m11,m12,vl,ha,QH,R0,R1,R2,R4,R5,R7,X3,X6,X7,X8,X9,X10,X11,X12⟩ hb_ hon hoff
      refine ⟨_,rfl,fun K hK=>?_⟩
      have hsz : g ≤ w'.heap.size:=by rw [← hg];exact QH.size
      refine Kd.R_make_step Kd.bool _ 4 (by rfl) (N:=6) rfl 22 _ _ rfl 2 rfl rfl Tryz.underlying22 (.bool false) 1 bool_info rfl (by decide) (by decide) false (ok:=fun _=>True) (okp:=fun _=>True) rfl (fun _ hk=>hk) trivial (by decide) (by decide) (Below.refl _ _) (Nat.le_refl _) ?_
      intro v2 w4 ho hb _ _
      refine hK.out _ _ ⟨v0,v1,v2,m3,v3,v4,m6,m7,m8,m9,m10,m11,m12,vl,(by rw [ha];exact putSel_upk 2 hb_ rfl rfl rfl),QH.trans (hb.mono hsz),fun h_=>Kd.R_below (R0 h_) hb,fun h_=>Kd.R_below (R1 h_) hb,fun _=>Kd.R_lower ho hsz,fun h_=>Kd.R_below (R4 h_) hb,fun h_=>Kd.R_below (R5 h_) hb,fun h_=>absurd ((hoff 7 (by kernel_rfl)).symm.trans h_) (by decide),fun h_=>absurd ((hoff 3 (by kernel_rfl)).symm.trans h_) (by decide),fun h_=>absurd ((hoff 6 (by kernel_rfl)).symm.trans h_) (by decide),fun h_=>absurd ((hoff 7 (by kernel_rfl)).symm.trans h_) (by decide),fun h_=>absurd ((hoff 8 (by kernel_rfl)).symm.trans h_) (by decide),fun h_=>absurd ((hoff 9 (by kernel_rfl)).symm.trans h_) (by decide),fun h_=>absurd ((hoff 10 (by kernel_rfl)).symm.trans h_) (by decide),fun h_=>absurd ((hoff 11 (by kernel_rfl)).symm.trans h_) (by decide),fun h_=>absurd ((hoff 12 (by kernel_rfl)).symm.trans h_) (by decide)⟩
    refine steps_cons ?_ ?_
    · rintro b a w' ⟨v0,v1,v2,m3,v3,v4,m6,m7,m8,m9,m10,m11,m12,vl,ha,QH,R0,R1,R2,R4,R5,R7,X3,X6,X7,X8,X9,X10,X11,X12⟩ hb_ hon hoff
      refine ⟨_,rfl,fun K hK=>?_⟩
      have hsz : g ≤ w'.heap.size:=by rw [← hg];exact QH.size
      have e0 : a.tmps[4]? = some v0:=by rw [ha];exact putSel_on (e:=(0,4,v0)) 0 rfl rfl (hon 0 (by kernel_rfl)) rfl
      have e1 : a.tmps[5]? = some v1:=by rw [ha];exact putSel_on (e:=(1,5,v1)) 1 rfl rfl (hon 1 (by kernel_rfl)) rfl
      have e2 : a.tmps[6]? = some v2:=by rw [ha];exact putSel_on (e:=(2,6,v2)) 2 rfl rfl (hon 2 (by kernel_rfl)) rfl
      replace ha:=Aside0.mk ha
      obtain ⟨A0,n0,c0,rfl⟩:=R_slice3 (R0 (hon 0 (by kernel_rfl)))
      obtain ⟨A1,n1,c1,rfl⟩:=R_slice3 (R1 (hon 1 (by kernel_rfl)))
      obtain ⟨A2,n2,c2,rfl⟩:=R_slice3 (R2 (hon 2 (by kernel_rfl)))
      refine value_ (w1:=w') (v:=.agg #[.int .i64 1,.int .i64 2,.slice A0 n0 c0,.slice A1 n1 c1,.slice A2 n2 c2]) (by rfl) rfl ?_ ?_
      · go_simp
        (try simp only [i64_w])
        try rfl
      exact hK.out _ _ ⟨.slice A0 n0 c0,.slice A1 n1 c1,.slice A2 n2 c2,(.agg #[.int .i64 1,.int .i64 2,.slice A0 n0 c0,.slice A1 n1 c1,.slice A2 n2 c2]),v3,v4,m6,m7,m8,m9,m10,m11,m12,vl,(by rw [ha.out];exact putSel_upk 3 hb_ rfl rfl rfl),QH,R0,R1,R2,R4,R5,fun h_=>absurd ((hoff 7 (by kernel_rfl)).symm.trans h_) (by decide),fun _=>rfl,fun h_=>absurd ((hoff 6 (by kernel_rfl)).symm.trans h_) (by decide),fun h_=>absurd ((hoff 7 (by kernel_rfl)).symm.trans h_) (by decide),fun h_=>absurd ((hoff 8 (by kernel_rfl)).symm.trans h_) (by decide),fun h_=>absurd ((hoff 9 (by kernel_rfl)).symm.trans h_) (by decide),fun h_=>absurd ((hoff 10 (by kernel_rfl)).symm.trans h_) (by decide),fun h_=>absurd ((hoff 11 (by kernel_rfl)).symm.trans h_) (by decide),fun h_=>absurd ((hoff 12 (by kernel_rfl)).symm.trans h_) (by decide)⟩
    refine steps_cons ?_ ?_
    · rintro b a w' ⟨v0,v1,v2,m3,v3,v4,m6,m7,m8,m9,m10,m11,m12,vl,ha,QH,R0,R1,R2,R4,R5,R7,X3,X6,X7,X8,X9,X10,X11,X12⟩ hb_ hon hoff
      refine ⟨_,rfl,fun K hK=>?_⟩
      have hsz : g ≤ w'.heap.size:=by rw [← hg];exact QH.size
      refine Kd.R_lit_step Kd.string _ 9 ?hg (N:=8) ?hd (xs:=([(⟨#[67]⟩ : ByteArray),(⟨#[67,72]⟩ : ByteArray)] : List ByteArray)) (inner:=[.string (⟨#[67]⟩ : ByteArray),.string (⟨#[67,72]⟩ : ByteArray)]) (ok:=fun _=>True) (okp:=fun _=>True) ?hr ?hp (fun _ hk=>hk) trivial (Below.refl _ _) (Nat.le_refl _) (by simp) ?_;(case hd=>rfl);(case hg=>rfl);(case hr=>first | (go_simp;done) | (go_simp;rfl));(case hp=>exact (Reps.one (show Kd.M Kd.string _ _ _ (⟨#[67]⟩ : ByteArray) [.string (⟨#[67]⟩ : ByteArray)] from rfl) (Reps.one (show Kd.M Kd.string _ _ _ (⟨#[67,72]⟩ : ByteArray) [.string (⟨#[67,72]⟩ : ByteArray)] from rfl) (Reps.none _ _))))
      intro v3 w4 ho hb _ _
      refine hK.out _ _ ⟨v0,v1,v2,m3,v3,v4,m6,m7,m8,m9,m10,m11,m12,vl,(by rw [ha];exact putSel_upk 4 hb_ rfl rfl rfl),QH.trans (hb.mono hsz),fun h_=>Kd.R_below (R0 h_) hb,fun h_=>Kd.R_below (R1 h_) hb,fun h_=>Kd.R_below (R2 h_) hb,fun _=>Kd.R_lower ho hsz,fun h_=>Kd.R_below (R5 h_) hb,fun h_=>absurd ((hoff 7 (by kernel_rfl)).symm.trans h_) (by decide),X3,fun h_=>absurd ((hoff 6 (by kernel_rfl)).symm.trans h_) (by decide),fun h_=>absurd ((hoff 7 (by kernel_rfl)).symm.trans h_) (by decide),fun h_=>absurd ((hoff 8 (by kernel_rfl)).symm.trans h_) (by decide),fun h_=>absurd ((hoff 9 (by kernel_rfl)).symm.trans h_) (by decide),fun h_=>absurd ((hoff 10 (by kernel_rfl)).symm.trans h_) (by decide),fun h_=>absurd ((hoff 11 (by kernel_rfl)).symm.trans h_) (by decide),fun h_=>absurd ((hoff 12 (by kernel_rfl)).symm.trans h_) (by decide)⟩
    refine steps_cons ?_ ?_
    · rintro b a w' ⟨v0,v1,v2,m3,v3,v4,m6,m7,m8,m9,m10,m11,m12,vl,ha,QH,R0,R1,R2,R4,R5,R7,X3,X6,X7,X8,X9,X10,X11,X12⟩ hb_ hon hoff
      refine ⟨_,rfl,fun K hK=>?_⟩
      have hsz : g ≤ w'.heap.size:=by rw [← hg];exact QH.size
      refine Kd.R_lit_step Kd.string _ 9 ?hg (N:=9) ?hd (xs:=([kClue] : List ByteArray)) (inner:=[.string kClue]) (ok:=fun _=>True) (okp:=fun _=>True) ?hr ?hp (fun _ hk=>hk) trivial (Below.refl _ _) (Nat.le_refl _) (by simp) ?_;(case hd=>rfl);(case hg=>rfl);(case hr=>first | (go_simp;done) | (go_simp;rfl));(case hp=>exact (Reps.one (show Kd.M Kd.string _ _ _ kClue [.string kClue] from rfl) (Reps.none _ _)))
      intro v4 w4 ho hb _ _
      refine hK.out _ _ ⟨v0,v1,v2,m3,v3,v4,m6,m7,m8,m9,m10,m11,m12,vl,(by rw [ha];exact putSel_upk 5 hb_ rfl rfl rfl),QH.trans (hb.mono hsz),fun h_=>Kd.R_below (R0 h_) hb,fun h_=>Kd.R_below (R1 h_) hb,fun h_=>Kd.R_below (R2 h_) hb,fun h_=>Kd.R_below (R4 h_) hb,fun _=>Kd.R_lower ho hsz,fun h_=>absurd ((hoff 7 (by kernel_rfl)).symm.trans h_) (by decide),X3,fun h_=>absurd ((hoff 6 (by kernel_rfl)).symm.trans h_) (by decide),fun h_=>absurd ((hoff 7 (by kernel_rfl)).symm.trans h_) (by decide),fun h_=>absurd ((hoff 8 (by kernel_rfl)).symm.trans h_) (by decide),fun h_=>absurd ((hoff 9 (by kernel_rfl)).symm.trans h_) (by decide),fun h_=>absurd ((hoff 10 (by kernel_rfl)).symm.trans h_) (by decide),fun h_=>absurd ((hoff 11 (by kernel_rfl)).symm.trans h_) (by decide),fun h_=>absurd ((hoff 12 (by kernel_rfl)).symm.trans h_) (by decide)⟩
    refine steps_cons ?_ ?_
    · rintro b a w' ⟨v0,v1,v2,m3,v3,v4,m6,m7,m8,m9,m10,m11,m12,vl,ha,QH,R0,R1,R2,R4,R5,R7,X3,X6,X7,X8,X9,X10,X11,X12⟩ hb_ hon hoff
      refine ⟨_,rfl,fun K hK=>?_⟩
      have hsz : g ≤ w'.heap.size:=by rw [← hg];exact QH.size
      have e7 : a.tmps[7]? = some m3:=by rw [ha];exact putSel_on (e:=(3,7,m3)) 3 rfl rfl (hon 3 (by kernel_rfl)) rfl
      rw [X3 (hon 3 (by kernel_rfl))] at e7
      have e8 : a.tmps[8]? = some v3:=by rw [ha];exact putSel_on (e:=(4,8,v3)) 4 rfl rfl (hon 4 (by kernel_rfl)) rfl
      have e9 : a.tmps[9]? = some v4:=by rw [ha];exact putSel_on (e:=(5,9,v4)) 5 rfl rfl (hon 5 (by kernel_rfl)) rfl
      replace ha:=Aside0.mk ha
      obtain ⟨A0,n0,c0,rfl⟩:=R_slice3 (R0 (hon 0 (by kernel_rfl)))
      obtain ⟨A1,n1,c1,rfl⟩:=R_slice3 (R1 (hon 1 (by kernel_rfl)))
      obtain ⟨A2,n2,c2,rfl⟩:=R_slice3 (R2 (hon 2 (by kernel_rfl)))
      obtain ⟨A4,n4,c4,rfl⟩:=R_slice3 (R4 (hon 4 (by kernel_rfl)))
      obtain ⟨A5,n5,c5,rfl⟩:=R_slice3 (R5 (hon 5 (by kernel_rfl)))
      refine value_ (w1:=w') (v:=.agg #[.string (⟨#[]⟩ : ByteArray),.int .i64 1,.int .i64 2,.slice A0 n0 c0,.slice A1 n1 c1,.slice A2 n2 c2,.slice A4 n4 c4,.slice A5 n5 c5]) (by rfl) rfl ?_ ?_
      · go_simp
        (try simp only [i64_w])
        try rfl
      exact hK.out _ _ ⟨.slice A0 n0 c0,.slice A1 n1 c1,.slice A2 n2 c2,m3,.slice A4 n4 c4,.slice A5 n5 c5,(.agg #[.string (⟨#[]⟩ : ByteArray),.int .i64 1,.int .i64 2,.slice A0 n0 c0,.slice A1 n1 c1,.slice A2 n2 c2,.slice A4 n4 c4,.slice A5 n5 c5]),m7,m8,m9,m10,m11,m12,vl,(by rw [ha.out];exact putSel_upk 6 hb_ rfl rfl rfl),QH,R0,R1,R2,R4,R5,fun h_=>absurd ((hoff 7 (by kernel_rfl)).symm.trans h_) (by decide),X3,fun _=>rfl,fun h_=>absurd ((hoff 7 (by kernel_rfl)).symm.trans h_) (by decide),fun h_=>absurd ((hoff 8 (by kernel_rfl)).symm.trans h_) (by decide),fun h_=>absurd ((hoff 9 (by kernel_rfl)).symm.trans h_) (by decide),fun h_=>absurd ((hoff 10 (by kernel_rfl)).symm.trans h_) (by decide),fun h_=>absurd ((hoff 11 (by kernel_rfl)).symm.trans h_) (by decide),fun h_=>absurd ((hoff 12 (by kernel_rfl)).symm.trans h_) (by decide)⟩
    refine steps_cons ?_ ?_
    · rintro b a w' ⟨v0,v1,v2,m3,v3,v4,m6,m7,m8,m9,m10,m11,m12,vl,ha,QH,R0,R1,R2,R4,R5,R7,X3,X6,X7,X8,X9,X10,X11,X12⟩ hb_ hon hoff
      refine ⟨_,rfl,fun K hK=>?_⟩
      have hsz : g ≤ w'.heap.size:=by rw [← hg];exact QH.size
      have e10 : a.tmps[10]? = some m6:=by rw [ha];exact putSel_on (e:=(6,10,m6)) 6 rfl rfl (hon 6 (by kernel_rfl)) rfl
      rw [X6 (hon 6 (by kernel_rfl))] at e10
      replace ha:=Aside0.mk ha
      obtain ⟨A0,cA0,rfl,kA0,CA0⟩:=Kd.R_reads (R0 (hon 0 (by kernel_rfl)))
      obtain ⟨A1,cA1,rfl,kA1,CA1⟩:=Kd.R_reads (R1 (hon 1 (by kernel_rfl)))
      obtain ⟨A2,cA2,rfl,kA2,CA2⟩:=Kd.R_reads (R2 (hon 2 (by kernel_rfl)))
      obtain ⟨A3,cA3,rfl,kA3,CA3⟩:=Kd.R_reads (R4 (hon 4 (by kernel_rfl)))
      obtain ⟨A4,cA4,rfl,kA4,CA4⟩:=Kd.R_reads (R5 (hon 5 (by kernel_rfl)))
      have hP:=PuzR.mk CA0 kA0 CA1 kA1 CA2 kA2 CA3 kA3 CA4 kA4
      refine goes_ Tryz.func12 (by kernel_rfl) rfl #[.agg #[.string (⟨#[]⟩ : ByteArray),.int .i64 1,.int .i64 2,.slice A0 kRow.length cA0,.slice A1 kRow.length cA1,.slice A2 kRow.length cA2,.slice A3 kCells.length cA3,.slice A4 [kClue].length cA4]] (by rfl) rfl rfl (by first | (go_simp;done) | (go_simp;rfl)) ?_
      refine (draw_ok (tabs_below hT (QH.mono (by rw [hg];exact Nat.le_refl _))) hP kz kcheck).mono ?_
      rw [kdraw]
      rintro e w4 ⟨vl,rfl,ho,hb⟩
      refine ⟨_,rfl,?_⟩
      refine hK.out _ _ ⟨_,_,_,m3,_,_,m6,(.tuple #[vl,.int .i64 0]),m8,m9,m10,m11,m12,vl,(by rw [ha.out];exact putSel_upk 7 hb_ rfl rfl rfl),QH.trans (hb.mono hsz),fun h_=>Kd.R_below (R0 h_) hb,fun h_=>Kd.R_below (R1 h_) hb,fun h_=>Kd.R_below (R2 h_) hb,fun h_=>Kd.R_below (R4 h_) hb,fun h_=>Kd.R_below (R5 h_) hb,fun _=>Kd.R_lower ho hsz,X3,X6,fun _=>rfl,fun h_=>absurd ((hoff 8 (by kernel_rfl)).symm.trans h_) (by decide),fun h_=>absurd ((hoff 9 (by kernel_rfl)).symm.trans h_) (by decide),fun h_=>absurd ((hoff 10 (by kernel_rfl)).symm.trans h_) (by decide),fun h_=>absurd ((hoff 11 (by kernel_rfl)).symm.trans h_) (by decide),fun h_=>absurd ((hoff 12 (by kernel_rfl)).symm.trans h_) (by decide)⟩
    refine steps_cons ?_ ?_
    · rintro b a w' ⟨v0,v1,v2,m3,v3,v4,m6,m7,m8,m9,m10,m11,m12,vl,ha,QH,R0,R1,R2,R4,R5,R7,X3,X6,X7,X8,X9,X10,X11,X12⟩ hb_ hon hoff
      refine ⟨_,rfl,fun K hK=>?_⟩
      have hsz : g ≤ w'.heap.size:=by rw [← hg];exact QH.size
      have e1 : a.tmps[11]? = some m7:=by rw [ha];exact putSel_on (e:=(7,11,m7)) 7 rfl rfl (hon 7 (by kernel_rfl)) rfl
      rw [X7 (hon 7 (by kernel_rfl))] at e1
      replace ha:=Aside0.mk ha
      refine value_ (w1:=w') (v:=.tuple #[vl,.int .i64 0]) (by rfl) rfl ?_ ?_
      · go_simp
        (try simp only [i64_w])
        try rfl
      exact hK.out _ _ ⟨v0,v1,v2,m3,v3,v4,m6,m7,(.tuple #[vl,.int .i64 0]),m9,m10,m11,m12,vl,(by rw [ha.out];exact putSel_upk 8 hb_ rfl rfl rfl),QH,R0,R1,R2,R4,R5,R7,X3,X6,X7,fun _=>rfl,fun h_=>absurd ((hoff 9 (by kernel_rfl)).symm.trans h_) (by decide),fun h_=>absurd ((hoff 10 (by kernel_rfl)).symm.trans h_) (by decide),fun h_=>absurd ((hoff 11 (by kernel_rfl)).symm.trans h_) (by decide),fun h_=>absurd ((hoff 12 (by kernel_rfl)).symm.trans h_) (by decide)⟩
    refine steps_cons ?_ ?_
    · rintro b a w' ⟨v0,v1,v2,m3,v3,v4,m6,m7,m8,m9,m10,m11,m12,vl,ha,QH,R0,R1,R2,R4,R5,R7,X3,X6,X7,X8,X9,X10,X11,X12⟩ hb_ hon hoff
      refine ⟨_,rfl,fun K hK=>?_⟩
      have hsz : g ≤ w'.heap.size:=by rw [← hg];exact QH.size
      have e1 : a.tmps[3]? = some m8:=by rw [ha];exact putSel_on (e:=(8,3,m8)) 8 rfl rfl (hon 8 (by kernel_rfl)) rfl
      rw [X8 (hon 8 (by kernel_rfl))] at e1
      replace ha:=Aside0.mk ha
      refine value_ (w1:=w') (v:=vl) (by rfl) rfl ?_ ?_
      · go_simp
        (try simp only [i64_w])
        try rfl
      exact hK.out _ _ ⟨v0,v1,v2,m3,v3,v4,m6,m7,m8,(vl),m10,m11,m12,vl,(by rw [ha.out];exact putSel_upk 9 hb_ rfl rfl rfl),QH,R0,R1,R2,R4,R5,R7,X3,X6,X7,X8,fun _=>rfl,X10,fun h_=>absurd ((hoff 11 (by kernel_rfl)).symm.trans h_) (by decide),fun h_=>absurd ((hoff 12 (by kernel_rfl)).symm.trans h_) (by decide)⟩
    refine steps_cons ?_ ?_
    · rintro b a w' ⟨v0,v1,v2,m3,v3,v4,m6,m7,m8,m9,m10,m11,m12,vl,ha,QH,R0,R1,R2,R4,R5,R7,X3,X6,X7,X8,X9,X10,X11,X12⟩ hb_ hon hoff
      refine ⟨_,rfl,fun K hK=>?_⟩
      have hsz : g ≤ w'.heap.size:=by rw [← hg];exact QH.size
      have e1 : a.tmps[3]? = some m8:=by rw [ha];exact putSel_on (e:=(8,3,m8)) 8 rfl rfl (hon 8 (by kernel_rfl)) rfl
      rw [X8 (hon 8 (by kernel_rfl))] at e1
      replace ha:=Aside0.mk ha
      refine value_ (w1:=w') (v:=.int .i64 0) (by rfl) rfl ?_ ?_
      · go_simp
        (try simp only [i64_w])
        try rfl
      exact hK.out _ _ ⟨v0,v1,v2,m3,v3,v4,m6,m7,m8,m9,(.int .i64 0),m11,m12,vl,(by rw [ha.out];exact putSel_upk 10 hb_ rfl rfl rfl),QH,R0,R1,R2,R4,R5,R7,X3,X6,X7,X8,X9,fun _=>rfl,X11,fun h_=>absurd ((hoff 12 (by kernel_rfl)).symm.trans h_) (by decide)⟩
    refine steps_cons ?_ ?_
    · rintro b a w' ⟨v0,v1,v2,m3,v3,v4,m6,m7,m8,m9,m10,m11,m12,vl,ha,QH,R0,R1,R2,R4,R5,R7,X3,X6,X7,X8,X9,X10,X11,X12⟩ hb_ hon hoff
      refine ⟨_,rfl,fun K hK=>?_⟩
      have hsz : g ≤ w'.heap.size:=by rw [← hg];exact QH.size
      have e1 : a.tmps[12]? = some m9:=by rw [ha];exact putSel_on (e:=(9,12,m9)) 9 rfl rfl (hon 9 (by kernel_rfl)) rfl
      rw [X9 (hon 9 (by kernel_rfl))] at e1
      replace ha:=Aside0.mk ha
      refine value_ (w1:=w') (v:=vl) (by rfl) rfl ?_ ?_
      · go_simp
        (try simp only [i64_w])
        try rfl
      exact hK.out _ _ ⟨v0,v1,v2,m3,v3,v4,m6,m7,m8,m9,m10,(vl),m12,vl,(by rw [ha.out];exact putSel_upk 11 hb_ rfl rfl rfl),QH,R0,R1,R2,R4,R5,R7,X3,X6,X7,X8,X9,X10,fun _=>rfl,fun h_=>absurd ((hoff 12 (by kernel_rfl)).symm.trans h_) (by decide)⟩
    refine steps_cons ?_ ?_
    · rintro b a w' ⟨v0,v1,v2,m3,v3,v4,m6,m7,m8,m9,m10,m11,m12,vl,ha,QH,R0,R1,R2,R4,R5,R7,X3,X6,X7,X8,X9,X10,X11,X12⟩ hb_ hon hoff
      refine ⟨_,rfl,fun K hK=>?_⟩
      have hsz : g ≤ w'.heap.size:=by rw [← hg];exact QH.size
      have e1 : a.tmps[13]? = some m10:=by rw [ha];exact putSel_on (e:=(10,13,m10)) 10 rfl rfl (hon 10 (by kernel_rfl)) rfl
      rw [X10 (hon 10 (by kernel_rfl))] at e1
      replace ha:=Aside0.mk ha
      refine value_ (w1:=w') (v:=.int .i64 0) (by rfl) rfl ?_ ?_
      · go_simp
        (try simp only [i64_w])
        try rfl
      exact hK.out _ _ ⟨v0,v1,v2,m3,v3,v4,m6,m7,m8,m9,m10,m11,(.int .i64 0),vl,(by rw [ha.out];exact putSel_upk 12 hb_ rfl rfl rfl),QH,R0,R1,R2,R4,R5,R7,X3,X6,X7,X8,X9,X10,X11,fun _=>rfl⟩
    exact steps_nil
  rintro b a w' hall ⟨v0,v1,v2,m3,v3,v4,m6,m7,m8,m9,m10,m11,m12,vl,ha,QH,R0,R1,R2,R4,R5,R7,X3,X6,X7,X8,X9,X10,X11,X12⟩
  have hb0_:=hall 0 (by kernel_rfl)
  have hb1_:=hall 1 (by kernel_rfl)
  have hb2_:=hall 2 (by kernel_rfl)
  have hb3_:=hall 3 (by kernel_rfl)
  have hb4_:=hall 4 (by kernel_rfl)
  have hb5_:=hall 5 (by kernel_rfl)
  have hb6_:=hall 6 (by kernel_rfl)
  have hb7_:=hall 7 (by kernel_rfl)
  have hb8_:=hall 8 (by kernel_rfl)
  have hb9_:=hall 9 (by kernel_rfl)
  have hb10_:=hall 10 (by kernel_rfl)
  have hb11_:=hall 11 (by kernel_rfl)
  have hb12_:=hall 12 (by kernel_rfl)
  subst ha
  have Y7:=X7 hb7_
  have Y8:=X8 hb8_
  have Y9:=X9 hb9_
  have Y10:=X10 hb10_
  have Y11:=X11 hb11_
  have Y12:=X12 hb12_
  have RL:=Lib.hid (R7 hb7_)
  have QH':=Lib.hid QH
  subst Y11 Y12
  simp only [putSel,hb0_,hb1_,hb2_,hb3_,hb4_,hb5_,hb6_,hb7_,hb8_,hb9_,hb10_,hb11_,hb12_,if_true,Act.put,List.setIfInBounds_toArray,List.set_cons_zero,List.set_cons_succ]
  clear QH R0 R1 R2 R4 R5 R7 X3 X6 X7 X8 X9 X10 X11 X12 Y7 Y8 Y9 Y10 hall hb0_ hb1_ hb2_ hb3_ hb4_ hb5_ hb6_ hb7_ hb8_ hb9_ hb10_ hb11_ hb12_ HB
  obtain ⟨A,c,rfl,k,C⟩:=Kd.R_reads RL.out
  have hl4 : aLines.length = 4:=rfl
  obtain ⟨ad,eA,z1⟩:=Kd.at_string C 1 (by decide) (by rw [hl4];decide)
  cases eA
  obtain ⟨ad2,eA,z2⟩:=Kd.at_string C 2 (by decide) (by rw [hl4];decide)
  cases eA
  rw [hl4]
  replace z1 : w'.cell? ⟨ad.block,ad.off + 1,none⟩ = some (.string ⟨#[124,49,32,32,124,32,32,32,124]⟩):=z1
  replace z2 : w'.cell? ⟨ad.block,ad.off + 2,none⟩ = some (.string ⟨#[124,32,67,32,124,32,67,72,124]⟩):=z2
  clear C RL k hl4
  go_wp2
  go_ret
  exact ⟨rfl,by rw [hg];exact QH'.out⟩
end Go.Proofs.YtpfbcepgmigeiaaGreatDoor.Q
end
section
namespace Go.Proofs.YtpfbcepgmigeiaaGreatDoor.Q
open Go.RowKit Go.Proofs.YtpfbcepgmigeiaaGreatDoorW.PrintWords Go.Proofs.YtpfbcepgmigeiaaGreatDoorW.PrintLast Go.Proofs.YtpfbcepgmigeiaaGreatDoorW.PrintMore
set_option linter.unusedVariables false
set_option linter.unusedSimpArgs false
open Go.Proofs.YtpfbcepgmigeiaaGreatDoorS
set_option maxHeartbeats 8000000 in
set_option maxRecDepth 1000000 in
theorem rebusref01_SameTexts.callsB {A B : Option Addr} {c d : Nat} {l : List ByteArray} {w : World} (hl : l.length ≤ 16777216) (ha : Kd.C Kd.string w A l.length l) (hb : Kd.C Kd.string w B l.length l) :
    Calls Tryz.prog 8 #[.slice A l.length c,.slice B l.length d] w fun e w'=>e = .returned (.bool true) ∧ Below w.heap.size w w':=by
  have t0 : ((l.length : Int) != (l.length : Int)) = false:=by simp
  go_enter Tryz.func8,Tryz.ntmps8
  go_wp2
  go_loopw [5] (fun v5 wr=>∃ (i : Nat) (q : Int),v5 = .int .i64 q ∧ Hid (q = i ∧ i ≤ l.length) ∧ Hid (Below w.heap.size w wr)) (fun v5 _=>l.length - (intOf v5).toNat)
  case atStart=>exact ⟨0,0,rfl,Lib.hid ⟨rfl,Nat.zero_le _⟩,Lib.hid (Below.refl _ _)⟩
  case round =>
    obtain ⟨i,q,rfl,hq,hB⟩:=hrel
    by_cases hlt : i < l.length
    · have hq0 : 0 ≤ q:=by have:=hq.out;omega
      have hq1 : q < (l.length : Int):=by have:=hq.out;omega
      have hq3 : q < 16777216:=by omega
      obtain ⟨ad,eA,z0⟩:=Kd.at_string (Kd.C_below ha hB.out) q hq0 hq1
      obtain ⟨ad2,eA2,z1⟩:=Kd.at_string (Kd.C_below hb hB.out) q hq0 hq1
      cases eA
      cases eA2
      obtain ⟨x,hx⟩ : ∃ x,rdOf ByteArray.empty l q = x:=⟨_,rfl⟩
      rw [hx] at z0 z1
      replace hlt:=Lib.hid hlt
      clear hx
      go_wp2
      go_quiet (fail)
      go_wp2
      refine ⟨⟨i + 1,q + 1,rfl,Lib.hid ⟨by have:=hq.out;omega,hlt.out⟩,Lib.hid (pw_below_drewN hB.out _)⟩,?_⟩
      simp only [intOf];have:=hq.out;have:=hlt.out;omega
    · have hge : ¬ q < (l.length : Int):=by have:=hq.out;omega
      go_wp2
      go_ret
      exact ⟨rfl,hB.out⟩
theorem rebusref01_SameTexts.calls {A B : Option Addr} {c d : Nat} {l : List ByteArray} {w : World} (hl : l.length ≤ 1048576) (ha : Kd.C Kd.string w A l.length l) (hb : Kd.C Kd.string w B l.length l) :
    Calls Tryz.prog 8 #[.slice A l.length c,.slice B l.length d] w fun e w'=>e = .returned (.bool true) ∧ Below w.heap.size w w' :=
  rebusref01_SameTexts.callsB (by omega) ha hb
end Go.Proofs.YtpfbcepgmigeiaaGreatDoor.Q
end
section
namespace Go.Proofs.YtpfbcepgmigeiaaGreatDoor.Q
open Go.RowKit Go.Proofs.YtpfbcepgmigeiaaGreatDoorW.PrintWords Go.Proofs.YtpfbcepgmigeiaaGreatDoorW.PrintLast Go.Proofs.YtpfbcepgmigeiaaGreatDoorW.PrintMore
set_option linter.unusedVariables false
set_option linter.unusedSimpArgs false
open Go.Proofs.YtpfbcepgmigeiaaGreatDoorS
structure GridS (bl ri be : List Bool) : Prop where
  b : bl.length ≤ 1048576
  r : ri.length ≤ 1048576
  e : be.length ≤ 1048576
set_option maxHeartbeats 8000000 in
set_option maxRecDepth 1000000 in
theorem rebusref05_sameBools.calls {A B : Option Addr} {c d : Nat} {l : List Bool} {w : World} (hl : l.length ≤ 1048576) (ha : Kd.C Kd.bool w A l.length l) (hb : Kd.C Kd.bool w B l.length l) :
    Calls Tryz.prog 62 #[.slice A l.length c,.slice B l.length d] w fun e w'=>e = .returned (.bool true) ∧ Below w.heap.size w w':=by
  have t0 : ((l.length : Int) != (l.length : Int)) = false:=by simp
  go_enter Tryz.func62,Tryz.ntmps62
  go_wp2
  go_loopw [5] (fun v5 wr=>∃ (i : Nat) (q : Int),v5 = .int .i64 q ∧ Hid (q = i ∧ i ≤ l.length) ∧ Hid (Below w.heap.size w wr)) (fun v5 _=>l.length - (intOf v5).toNat)
  case atStart=>exact ⟨0,0,rfl,Lib.hid ⟨rfl,Nat.zero_le _⟩,Lib.hid (Below.refl _ _)⟩
  case round =>
    obtain ⟨i,q,rfl,hq,hB⟩:=hrel
    by_cases hlt : i < l.length
    · have hq0 : 0 ≤ q:=by have:=hq.out;omega
      have hq1 : q < (l.length : Int):=by have:=hq.out;omega
      have hq3 : q < 1048576:=by omega
      obtain ⟨ad,eA,z0⟩:=Kd.at_bool (Kd.C_below ha hB.out) q hq0 hq1
      obtain ⟨ad2,eA2,z1⟩:=Kd.at_bool (Kd.C_below hb hB.out) q hq0 hq1
      cases eA
      cases eA2
      obtain ⟨x,hx⟩ : ∃ x,rdOf false l q = x:=⟨_,rfl⟩
      rw [hx] at z0 z1
      have t4 : (x != x) = false:=by simp
      replace hlt:=Lib.hid hlt
      clear hx
      go_wp2
      go_quiet (fail)
      go_wp2
      refine ⟨⟨i + 1,q + 1,rfl,Lib.hid ⟨by have:=hq.out;omega,hlt.out⟩,Lib.hid (pw_below_drewN hB.out _)⟩,?_⟩
      simp only [intOf];have:=hq.out;have:=hlt.out;omega
    · have hge : ¬ q < (l.length : Int):=by have:=hq.out;omega
      go_wp2
      go_ret
      exact ⟨rfl,hB.out⟩
set_option maxHeartbeats 8000000 in
set_option maxRecDepth 1000000 in
theorem rebusref05_Same.calls {H W : Int} {A2 : Option Addr} {c2 : Nat} {bl : List Bool} {A3 : Option Addr} {c3 : Nat} {ri : List Bool} {A4 : Option Addr} {c4 : Nat} {be : List Bool} {B2 : Option Addr} {b2 : Nat} {B3 : Option Addr} {b3 : Nat} {B4 : Option Addr} {b4 : Nat} {w : World} (hs : GridS bl ri be) (h1 : GridC A2 c2 bl A3 c3 ri A4 c4 be w) (h2 : GridC B2 b2 bl B3 b3 ri B4 b4 be w) :
    Calls Tryz.prog 27 #[.agg #[.int .i64 H,.int .i64 W,.slice A2 bl.length c2,.slice A3 ri.length c3,.slice A4 be.length c4],.agg #[.int .i64 H,.int .i64 W,.slice B2 bl.length b2,.slice B3 ri.length b3,.slice B4 be.length b4]] w fun e w'=>e = .returned (.bool true) ∧ Below w.heap.size w w':=by
  have hx:=box2 w (.cells #[.int .i64 H,.int .i64 W,.slice A2 bl.length c2,.slice A3 ri.length c3,.slice A4 be.length c4] 24) (.cells #[.int .i64 H,.int .i64 W,.slice B2 bl.length b2,.slice B3 ri.length b3,.slice B4 be.length b4] 24)
  have p1:=cells5 hx.1
  have q1:=cells5 hx.2.1
  replace hx:=Lib.hid hx
  have hu24:=Tryz.underlying24
  have e1 : (H == H) = true:=by simp
  have e2 : (W == W) = true:=by simp
  have tok1 : True:=trivial
  have tok2 : True:=trivial
  have tok3 : True:=trivial
  go_enter Tryz.func27,Tryz.ntmps27
  go_wp2_with (first
    | (go_at_call 62;have tq:=tok1;go_must (clear tq tok1;refine (rebusref05_sameBools.calls hs.b (h1.below hx.out.2.2).h2 (h2.below hx.out.2.2).h2).mono ?_;rintro e w3 ⟨rfl,hb⟩;have hB3:=Lib.hid (below_step hx.out.2.2 hb);have bP3:=Lib.hid (blk_below hx.out.1 hb);have bQ3:=Lib.hid (blk_below hx.out.2.1 hb);have p3:=cells5 bP3.out;have q3:=cells5 bQ3.out;clear p1 q1;clear hb))
    | (go_at_call 62;have tq:=tok2;go_must (clear tq tok2;refine (rebusref05_sameBools.calls hs.r (h1.below hB3.out).h3 (h2.below hB3.out).h3).mono ?_;rintro e w4 ⟨rfl,hb⟩;have hB4:=Lib.hid (below_step hB3.out hb);have bP4:=Lib.hid (blk_below bP3.out hb);have bQ4:=Lib.hid (blk_below bQ3.out hb);have p4:=cells5 bP4.out;have q4:=cells5 bQ4.out;clear p3 q3;clear hb))
    | (go_at_call 62;have tq:=tok3;go_must (clear tq tok3;refine (rebusref05_sameBools.calls hs.e (h1.below hB4.out).h4 (h2.below hB4.out).h4).mono ?_;rintro e w5 ⟨rfl,hb⟩;have hB5:=Lib.hid (below_step hB4.out hb);clear p4 q4;clear hb)))
  go_ret
  exact ⟨rfl,hB5.out⟩
set_option maxHeartbeats 8000000 in
set_option maxRecDepth 1000000 in
theorem rebusref21_Same.calls {title : ByteArray} {H W : Int} {A2 : Option Addr} {c2 : Nat} {bl : List Bool} {A3 : Option Addr} {c3 : Nat} {ri : List Bool} {A4 : Option Addr} {c4 : Nat} {be : List Bool} {B2 : Option Addr} {b2 : Nat} {B3 : Option Addr} {b3 : Nat} {B4 : Option Addr} {b4 : Nat} {A5 : Option Addr} {c5 : Nat} {cells : List ByteArray} {A6 : Option Addr} {c6 : Nat} {clues : List ByteArray} {B5 : Option Addr} {b5 : Nat} {B6 : Option Addr} {b6 : Nat} {w : World} (hs : GridS bl ri be) (hz : PuzS title cells clues) (h1 : PuzR A2 c2 bl A3 c3 ri A4 c4 be A5 c5 cells A6 c6 clues w) (h2 : PuzR B2 b2 bl B3 b3 ri B4 b4 be B5 b5 cells B6 b6 clues w) :
    Calls Tryz.prog 11 #[.agg #[.string title,.int .i64 H,.int .i64 W,.slice A2 bl.length c2,.slice A3 ri.length c3,.slice A4 be.length c4,.slice A5 cells.length c5,.slice A6 clues.length c6],.agg #[.string title,.int .i64 H,.int .i64 W,.slice B2 bl.length b2,.slice B3 ri.length b3,.slice B4 be.length b4,.slice B5 cells.length b5,.slice B6 clues.length b6]] w fun e w'=>e = .returned (.bool true) ∧ Below w.heap.size w w':=by
  have hx:=box2 w (.cells #[.string title,.int .i64 H,.int .i64 W,.slice A2 bl.length c2,.slice A3 ri.length c3,.slice A4 be.length c4,.slice A5 cells.length c5,.slice A6 clues.length c6] 27) (.cells #[.string title,.int .i64 H,.int .i64 W,.slice B2 bl.length b2,.slice B3 ri.length b3,.slice B4 be.length b4,.slice B5 cells.length b5,.slice B6 clues.length b6] 27)
  have p1:=cells8 hx.1
  have q1:=cells8 hx.2.1
  replace hx:=Lib.hid hx
  have hu27:=Tryz.underlying27
  have hu24:=Tryz.underlying24
  have e1 : (title.toList == title.toList) = true:=by simp
  have tok1 : True:=trivial
  have tok2 : True:=trivial
  go_enter Tryz.func11,Tryz.ntmps11
  go_wp2_with (first
    | (go_at_call 27;go_must (refine (rebusref05_Same.calls hs (h1.below hx.out.2.2).gridC (h2.below hx.out.2.2).gridC).mono ?_;rintro e w3 ⟨rfl,hb⟩;have hB3:=Lib.hid (below_step hx.out.2.2 hb);have bP3:=Lib.hid (blk_below hx.out.1 hb);have bQ3:=Lib.hid (blk_below hx.out.2.1 hb);have p3:=cells8 bP3.out;have q3:=cells8 bQ3.out;clear p1 q1;clear hb))
    | (go_at_call 8;have tq:=tok1;go_must (clear tq tok1;refine (rebusref01_SameTexts.calls hz.l (h1.below hB3.out).r5 (h2.below hB3.out).r5).mono ?_;rintro e w4 ⟨rfl,hb⟩;have hB4:=Lib.hid (below_step hB3.out hb);have bP4:=Lib.hid (blk_below bP3.out hb);have bQ4:=Lib.hid (blk_below bQ3.out hb);have p4:=cells8 bP4.out;have q4:=cells8 bQ4.out;clear p3 q3;clear hb))
    | (go_at_call 8;have tq:=tok2;go_must (clear tq tok2;refine (rebusref01_SameTexts.calls hz.m (h1.below hB4.out).r6 (h2.below hB4.out).r6).mono ?_;rintro e w5 ⟨rfl,hb⟩;have hB5:=Lib.hid (below_step hB4.out hb);clear p4 q4;clear hb)))
  go_ret
  exact ⟨rfl,hB5.out⟩
end Go.Proofs.YtpfbcepgmigeiaaGreatDoor.Q
end
section
namespace Go.Proofs.YtpfbcepgmigeiaaGreatDoor.Q
open Go.RowKit Go.Proofs.YtpfbcepgmigeiaaGreatDoorW.PrintWords Go.Proofs.YtpfbcepgmigeiaaGreatDoorW.PrintLast Go.Proofs.YtpfbcepgmigeiaaGreatDoorW.PrintMore
set_option linter.unusedVariables false
set_option linter.unusedSimpArgs false
open Go.Proofs.YtpfbcepgmigeiaaGreatDoorS
theorem copied_f {title : ByteArray} {H W : Int} {bl ri be : List Bool} {cells clues : List ByteArray} (h1 : bl.length ≤ 1048576) (h2 : ri.length ≤ 1048576) (h3 : be.length ≤ 1048576) (h4 : cells.length ≤ 1048576) (h5 : clues.length ≤ 1048576) : rebusref21_Copied.f title H W bl ri be cells clues = some (title,H,W,bl,ri,be,cells,clues):=by
  unfold rebusref21_Copied.f
  simp only [Option.bind_some,List.length_nil,Nat.zero_add,List.nil_append]
  rw [if_pos (by omega),if_pos (by omega),if_pos (by omega),if_pos (by omega),if_pos (by omega)]
def ClOk (l : List ByteArray) (er : Int) (w : World) (e : Ending) (w' : World) : Prop:=∃ v,e = .returned (.tuple #[v,.int .i64 er]) ∧ Kd.R Kd.string 9 w' w.heap.size (fun _=>True) v l ∧ Below w.heap.size w w'
set_option maxHeartbeats 16000000 in
set_option maxRecDepth 1000000 in
theorem PagePages.calls0 {title : ByteArray} {H W : Int} {A2 : Option Addr} {c2 : Nat} {bl : List Bool} {A3 : Option Addr} {c3 : Nat} {ri : List Bool} {A4 : Option Addr} {c4 : Nat} {be : List Bool} {A5 : Option Addr} {c5 : Nat} {cells : List ByteArray} {A6 : Option Addr} {c6 : Nat} {clues : List ByteArray} {w : World} (hT : Tabs w) (hP : PuzR A2 c2 bl A3 c3 ri A4 c4 be A5 c5 cells A6 c6 clues w) (hz : PuzS title cells clues) (hs : GridS bl ri be) (down : Bool) (width : Int) {l : List ByteArray} {er : Int} {s : ByteArray} (hl : l.length ≤ 16777216)
    (hC1 : ∀ (D2 D3 D4 D5 D6 : Option Addr) (k2 k3 k4 k5 k6 : Nat) (w2 : World),Tabs w2 → PuzR D2 k2 bl D3 k3 ri D4 k4 be D5 k5 cells D6 k6 clues w2 → Calls Tryz.prog 6 #[.agg #[.string title,.int .i64 H,.int .i64 W,.slice D2 bl.length k2,.slice D3 ri.length k3,.slice D4 be.length k4,.slice D5 cells.length k5,.slice D6 clues.length k6],.bool down,.int .i64 width] w2 (ClOk l er w2))
    (hC2 : ∀ (D2 D3 D4 D5 D6 : Option Addr) (k2 k3 k4 k5 k6 : Nat) (w2 : World),PuzR D2 k2 bl D3 k3 ri D4 k4 be D5 k5 cells D6 k6 clues w2 → Calls Tryz.prog 7 #[.agg #[.string title,.int .i64 H,.int .i64 W,.slice D2 bl.length k2,.slice D3 ri.length k3,.slice D4 be.length k4,.slice D5 cells.length k5,.slice D6 clues.length k6],.bool down,.int .i64 width] w2 (ClOk l er w2))
    (hG1 : ∀ (D2 D3 D4 D5 D6 : Option Addr) (k2 k3 k4 k5 k6 : Nat) (w2 : World),Tabs w2 → PuzR D2 k2 bl D3 k3 ri D4 k4 be D5 k5 cells D6 k6 clues w2 → Calls Tryz.prog 9 #[.agg #[.string title,.int .i64 H,.int .i64 W,.slice D2 bl.length k2,.slice D3 ri.length k3,.slice D4 be.length k4,.slice D5 cells.length k5,.slice D6 clues.length k6],.int .i64 width] w2 (fun e w'=>e = .returned (.tuple #[.string s,.int .i64 er]) ∧ Below w2.heap.size w2 w'))
    (hG2 : ∀ (D2 D3 D4 D5 D6 : Option Addr) (k2 k3 k4 k5 k6 : Nat) (w2 : World),PuzR D2 k2 bl D3 k3 ri D4 k4 be D5 k5 cells D6 k6 clues w2 → Calls Tryz.prog 10 #[.agg #[.string title,.int .i64 H,.int .i64 W,.slice D2 bl.length k2,.slice D3 ri.length k3,.slice D4 be.length k4,.slice D5 cells.length k5,.slice D6 clues.length k6],.int .i64 width] w2 (fun e w'=>e = .returned (.tuple #[.string s,.int .i64 er]) ∧ Below w2.heap.size w2 w')) :
    Calls Tryz.prog 3 #[.agg #[.string title,.int .i64 H,.int .i64 W,.slice A2 bl.length c2,.slice A3 ri.length c3,.slice A4 be.length c4,.slice A5 cells.length c5,.slice A6 clues.length c6],.bool down,.int .i64 width] w fun e w'=>e = .returned (.bool true) ∧ Below w.heap.size w w':=by
  have hcf:=copied_f (title:=title) (H:=H) (W:=W) (bl:=bl) (ri:=ri) (be:=be) (cells:=cells) (clues:=clues) hs.b hs.r hs.e hz.l hz.m
  have hx:=box1 w (.cells #[.string title,.int .i64 H,.int .i64 W,.slice A2 bl.length c2,.slice A3 ri.length c3,.slice A4 be.length c4,.slice A5 cells.length c5,.slice A6 clues.length c6] 27)
  replace hx:=Lib.hid hx
  replace hcf:=Lib.hid hcf
  replace hC1:=Lib.hid hC1
  replace hC2:=Lib.hid hC2
  replace hG1:=Lib.hid hG1
  replace hG2:=Lib.hid hG2
  have hs0:=Lib.hid hs
  have hz0:=Lib.hid hz
  have hP0:=Lib.hid hP
  clear hs hz hP
  have hu27:=Tryz.underlying27
  have hu24:=Tryz.underlying24
  have te2 : (er != er) = false:=by simp
  have te3 : (er == er) = true:=by simp
  have ts : (s.toList == s.toList) = true:=by simp
  go_enter Tryz.func3,Tryz.ntmps3
  go_wp2_with (first
    | (go_at_call 4;go_must (refine (rebuslaw21_awake.calls (tabs_below hT hx.out.2)).mono ?_;rintro e w2 ⟨rfl,hb2⟩;have P2:=Lib.hid (blk_below hx.out.1 hb2);have p2:=cells8 P2.out;have B2:=Lib.hid (below_step hx.out.2 hb2);clear hb2))
    | (go_at_call 5;go_must (have hPx:=hP0.out.below B2.out;refine (rebusref21_Copied.calls title H W A2 c2 bl A3 c3 ri A4 c4 be A5 c5 cells A6 c6 clues title H W bl ri be cells clues _ hPx.r2 hPx.k2 hPx.r3 hPx.k3 hPx.r4 hPx.k4 hPx.r5 hPx.k5 hPx.r6 hPx.k6 hcf.out).mono ?_;clear hPx;rintro e w5 ⟨v3,v4,v5,v6,v7,rfl,R3,R4,R5,R6,R7,hb5⟩;obtain ⟨D3,k3,rfl⟩:=Kd.R_slice R3;obtain ⟨D4,k4,rfl⟩:=Kd.R_slice R4;obtain ⟨D5,k5,rfl⟩:=Kd.R_slice R5;obtain ⟨D6,k6,rfl⟩:=Kd.R_slice R6;obtain ⟨D7,k7,rfl⟩:=Kd.R_slice R7;have q6:=box1 w5 (.cells #[.string title,.int .i64 H,.int .i64 W,.slice D3 bl.length k3,.slice D4 ri.length k4,.slice D5 be.length k5,.slice D6 cells.length k6,.slice D7 clues.length k7] 27);obtain ⟨-,kk3,C3⟩:=Kd.R_reads' R3;obtain ⟨-,kk4,C4⟩:=Kd.R_reads' R4;obtain ⟨-,kk5,C5⟩:=Kd.R_reads' R5;obtain ⟨-,kk6,C6⟩:=Kd.R_reads' R6;obtain ⟨-,kk7,C7⟩:=Kd.R_reads' R7;have hQ6:=Lib.hid ((PuzR.mk C3 kk3 C4 kk4 C5 kk5 C6 kk6 C7 kk7).below q6.2);have B5:=below_step B2.out hb5;have B6:=Lib.hid (below_step B5 q6.2);have hP6:=Lib.hid (hP0.out.below B6.out);have P6:=Lib.hid (blk_below (blk_below P2.out hb5) q6.2);have Q6:=Lib.hid q6.1;have T6:=Lib.hid (tabs_below hT B6.out);have p6:=cells8 P6.out;have s6:=cells8 Q6.out;have BW6:=Lib.hid (Below.refl (w5.alloc (.cells #[.string title,.int .i64 H,.int .i64 W,.slice D3 bl.length k3,.slice D4 ri.length k4,.slice D5 be.length k5,.slice D6 cells.length k6,.slice D7 clues.length k7] 27)).heap.size (w5.alloc (.cells #[.string title,.int .i64 H,.int .i64 W,.slice D3 bl.length k3,.slice D4 ri.length k4,.slice D5 be.length k5,.slice D6 cells.length k6,.slice D7 clues.length k7] 27)));clear R3 R4 R5 R6 R7 C3 C4 C5 C6 C7 kk3 kk4 kk5 kk6 kk7 hb5 q6 B5 p2 P2))
    | (go_at_call 6;go_must (refine (hC1.out _ _ _ _ _ _ _ _ _ _ _ T6.out hQ6.out).mono ?_;rintro e w7 ⟨vL,rfl,RL,hb⟩;obtain ⟨AL,cL,rfl⟩:=Kd.R_slice RL;have RL7:=Lib.hid RL;have BW7:=Lib.hid (BW6.out.trans (hb.mono BW6.out.size));have p7:=cells8 (blk_below P6.out BW7.out);have s7:=cells8 (blk_below Q6.out BW7.out);clear hb p6 s6 BW6;clear RL))
    | (go_at_call 7;go_must (refine (hC2.out _ _ _ _ _ _ _ _ _ _ _ (hP6.out.below BW7.out)).mono ?_;rintro e w8 ⟨vW,rfl,RW,hb⟩;obtain ⟨AW,cW,rfl⟩:=Kd.R_slice RW;have RW8:=Lib.hid RW;have RL8:=Lib.hid (Kd.R_below RL7.out hb);have BW8:=Lib.hid (BW7.out.trans (hb.mono BW7.out.size));have p8:=cells8 (blk_below P6.out BW8.out);have s8:=cells8 (blk_below Q6.out BW8.out);clear hb p7 s7 BW7;clear RW RL7))
    | (go_at_call 8;go_must (refine (rebusref01_SameTexts.callsB hl (Kd.R_reads' RL8.out).2.2 (Kd.R_reads' RW8.out).2.2).mono ?_;rintro e w9 ⟨rfl,hb⟩;have BW9:=Lib.hid (BW8.out.trans (hb.mono BW8.out.size));have p9:=cells8 (blk_below P6.out BW9.out);have s9:=cells8 (blk_below Q6.out BW9.out);clear hb p8 s8 BW8))
    | (go_at_call 9;go_must (refine (hG1.out _ _ _ _ _ _ _ _ _ _ _ (tabs_below T6.out BW9.out) (hQ6.out.below BW9.out)).mono ?_;rintro e w10 ⟨rfl,hb⟩;have BW10:=Lib.hid (BW9.out.trans (hb.mono BW9.out.size));have p10:=cells8 (blk_below P6.out BW10.out);have s10:=cells8 (blk_below Q6.out BW10.out);clear hb p9 s9 BW9))
    | (go_at_call 10;go_must (refine (hG2.out _ _ _ _ _ _ _ _ _ _ _ (hP6.out.below BW10.out)).mono ?_;rintro e w11 ⟨rfl,hb⟩;have BW11:=Lib.hid (BW10.out.trans (hb.mono BW10.out.size));have p11:=cells8 (blk_below P6.out BW11.out);have s11:=cells8 (blk_below Q6.out BW11.out);clear hb p10 s10 BW10))
    | (go_at_call 11;go_must (refine (rebusref21_Same.calls hs0.out hz0.out (hQ6.out.below BW11.out) (hP6.out.below BW11.out)).mono ?_;rintro e w12 ⟨rfl,hb⟩;have BW12:=Lib.hid (BW11.out.trans (hb.mono BW11.out.size));have p12:=cells8 (blk_below P6.out BW12.out);have s12:=cells8 (blk_below Q6.out BW12.out);clear hb p11 s11 BW11)))
  go_ret
  exact ⟨rfl,B6.out.trans (BW12.out.mono B6.out.size)⟩
theorem PagePages.calls {title : ByteArray} {H W : Int} {A2 : Option Addr} {c2 : Nat} {bl : List Bool} {A3 : Option Addr} {c3 : Nat} {ri : List Bool} {A4 : Option Addr} {c4 : Nat} {be : List Bool} {A5 : Option Addr} {c5 : Nat} {cells : List ByteArray} {A6 : Option Addr} {c6 : Nat} {clues : List ByteArray} {w : World} (hT : Tabs w) (hP : PuzR A2 c2 bl A3 c3 ri A4 c4 be A5 c5 cells A6 c6 clues w) (hz : PuzS title cells clues) (h1 : bl.length ≤ 1048576) (h2 : ri.length ≤ 1048576) (h3 : be.length ≤ 1048576) (down : Bool) (width : Int) :
    Calls Tryz.prog 3 #[.agg #[.string title,.int .i64 H,.int .i64 W,.slice A2 bl.length c2,.slice A3 ri.length c3,.slice A4 be.length c4,.slice A5 cells.length c5,.slice A6 clues.length c6],.bool down,.int .i64 width] w fun e w'=>e = .returned (.bool true) ∧ Below w.heap.size w w':=by
  by_cases hp : pcheck title H W bl ri be cells clues = 0
  · by_cases hw : 10 ≤ width ∧ width ≤ 120
    · exact PagePages.calls0 hT hP hz ⟨h1,h2,h3⟩ down width (l:=cluesB H W bl ri be clues down width) (er:=0) (s:=pageB title H W bl ri be cells clues width) (by have:=((page_sizes hp hw.1).2.2.2 down).1;omega)
        (fun _ _ _ _ _ _ _ _ _ _ w2 t2 p2=>clues_ok t2 p2 hz hp down hw.1 hw.2) (fun _ _ _ _ _ _ _ _ _ _ w2 p2=>clues2_ok p2 hz hp down hw.1 hw.2) (fun _ _ _ _ _ _ _ _ _ _ w2 t2 p2=>page_ok t2 p2 hz hp hw.1 hw.2) (fun _ _ _ _ _ _ _ _ _ _ w2 p2=>page2_ok p2 hz hp hw.1 hw.2)
    · have hw2 : width < 10 ∨ 120 < width:=by omega
      exact PagePages.calls0 hT hP hz ⟨h1,h2,h3⟩ down width (l:=[]) (er:=200) (s:=⟨#[]⟩) (by decide)
        (fun _ _ _ _ _ _ _ _ _ _ w2 t2 p2=>(clues_wide t2 p2 hz hp down width hw2).mono fun _ _ h=>⟨_,h.1,Kd.R_nil _ _ _ _ _,h.2⟩) (fun _ _ _ _ _ _ _ _ _ _ w2 p2=>(clues2_wide p2 hz hp down width hw2).mono fun _ _ h=>⟨_,h.1,Kd.R_nil _ _ _ _ _,h.2⟩) (fun _ _ _ _ _ _ _ _ _ _ w2 t2 p2=>page_wide t2 p2 hz hp width hw2) (fun _ _ _ _ _ _ _ _ _ _ w2 p2=>page2_wide p2 hz hp width hw2)
  · exact PagePages.calls0 hT hP hz ⟨h1,h2,h3⟩ down width (l:=[]) (er:=pcheck title H W bl ri be cells clues) (s:=⟨#[]⟩) (by decide)
      (fun _ _ _ _ _ _ _ _ _ _ w2 t2 p2=>(clues_bad t2 p2 hz rfl hp down width).mono fun _ _ h=>⟨_,h.1,Kd.R_nil _ _ _ _ _,h.2⟩) (fun _ _ _ _ _ _ _ _ _ _ w2 p2=>(clues2_bad p2 hz rfl hp down width).mono fun _ _ h=>⟨_,h.1,Kd.R_nil _ _ _ _ _,h.2⟩) (fun _ _ _ _ _ _ _ _ _ _ w2 t2 p2=>page_bad t2 p2 hz rfl hp width) (fun _ _ _ _ _ _ _ _ _ _ w2 p2=>page2_bad p2 hz rfl hp width)
end Go.Proofs.YtpfbcepgmigeiaaGreatDoor.Q
end
