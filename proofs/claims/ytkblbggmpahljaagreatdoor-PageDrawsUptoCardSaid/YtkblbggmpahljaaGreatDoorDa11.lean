/- PART 11 OF A PROOF: Lean functions, and that the program computes them; written by hand and by a program. Not trusted: Lean checks it. -/
import Derived.Test.YtkblbggmpahljaaGreatDoorDa9
import Derived.Test.YtkblbggmpahljaaGreatDoorDa10
set_option linter.unusedVariables false
set_option linter.unusedSimpArgs false
section
namespace Go.Proofs.YtkblbggmpahljaaGreatDoor.Q
open Go.RowKit Go.Proofs.YtkblbggmpahljaaGreatDoorW.PrintWords Go.Proofs.YtkblbggmpahljaaGreatDoorW.PrintLast Go.Proofs.YtkblbggmpahljaaGreatDoorW.PrintMore
set_option linter.unusedVariables false
set_option linter.unusedSimpArgs false
open Go.Proofs.YtkblbggmpahljaaGreatDoorS
def kRow : List Bool:=List.replicate 2 false
def kCells : List ByteArray:=[⟨#[67]⟩,⟨#[67,72]⟩]
def kClue : ByteArray:=⟨#[79,108,100,32,99,97,114,32,40,50,41]⟩
def aLines : List ByteArray:=[⟨#[43,45,45,45,43,45,45,45,43]⟩,⟨#[124,49,32,32,124,32,32,32,124]⟩,⟨#[124,32,67,32,124,32,67,72,124]⟩,⟨#[43,45,45,45,43,45,45,45,43]⟩]
theorem kcheck : pcheck ⟨#[]⟩ 1 2 kRow kRow kRow kCells [kClue] = 0:=by decide +kernel
theorem kslots : slotsOf 1 2 kRow kRow kRow = [⟨1,false,[0,1]⟩]:=by kernel_rfl
theorem kitoa : itoaB 1 = ⟨#[49]⟩:=by
  have e : Lib.itoa 1 = [49]:=by
    unfold Lib.itoa
    rw [if_neg (by decide)]
    show Lib.decDigits 1 = _
    rw [Lib.decDigits,dif_pos (by decide)]
    rfl
  unfold itoaB
  rw [e]
theorem knums : pnums (slotsOf 1 2 kRow kRow kRow) 2 = [⟨#[49]⟩,⟨#[]⟩]:=by
  rw [kslots]
  show (List.replicate 2 (⟨#[]⟩ : ByteArray)).set 0 (itoaB 1) = _
  rw [kitoa]
  rfl
theorem kdraw : drawB 1 2 kRow kRow kRow kCells = aLines:=by
  unfold drawB
  rw [show kCells.length = 2 from rfl,knums]
  decide +kernel
theorem ksmall {l : List ByteArray} (h : l.all (fun s=>decide (s.size ≤ 1048576)) = true) : Small l:=fun s hs=>of_decide_eq_true (List.all_eq_true.1 h s hs)
theorem kz : PuzS ⟨#[]⟩ kCells [kClue]:=⟨by decide,ksmall (by decide +kernel),ksmall (by decide +kernel),by decide,by decide⟩
def awake21.T1 : Bool × List (List Nat × List Nat):=(true,[([],[]),([],[]),([],[]),([0,1,2],[0,1,2]),([],[]),([],[]),([3,4,5],[3,4,5]),([6],[6]),([7],[7]),([8],[8]),([8],[8]),([9,7,0,1,2,3,4,5,6,7,8,9],[9]),([10,11,0,1,2,3,4,5,6,7,8,9,10,11],[10])])
def awake21.B1 : List Nat:=[0,0,0,7,0,0,63,127,255,511,511,1023,4095]
theorem awake21.tab1 : rtab .any (opsOf Tryz.f4 1) = awake21.T1:=by kernel_rfl
theorem awake21.bits1 : waitsOk awake21.T1.2 awake21.B1 = true:=by kernel_rfl
set_option maxHeartbeats 8000000 in
set_option maxRecDepth 1000000 in
theorem rebuslaw21_awake.calls {w : World} (hT : Tabs w) : Calls Tryz.prog 4 #[] w fun e w'=>e = .returned (.bool true) ∧ Below w.heap.size w w':=by
  have hu27:=Tryz.underlying27
  have hu24:=Tryz.underlying24
  go_enter Tryz.func4,Tryz.ntmps4
  go_wp2
  have HB:=below_drew (Below.refl w.heap.size w)
  obtain ⟨g,hg⟩ : ∃ g,w.heap.size = g:=⟨_,rfl⟩
  refine start_ (n:=13) (S:=fun w'=>True) (ds:=[]) #[false,false,false,false,false,false,false,false,false,false,false,false,false] (by kernel_rfl) rfl rfl trivial (fun hHeld=>?_)
  refine with_tabW awake21.tab1 awake21.bits1 (fun HT_ HW_=>?_)
  generalize w.drew = w3 at HB hHeld ⊢
  rw [hg] at HB
  refine inv_at [0,1,2,3,4,5,6,7,8,9,10,11,12] (fun a0_ b a w'=>∃ v0 v1 v2 m3 v3 v4 m6 m7 m8 m9 m10 m11 m12 vl : Value,a = putSel a0_ b [(0,4,v0),(1,5,v1),(2,6,v2),(3,7,m3),(4,8,v3),(5,9,v4),(6,10,m6),(7,11,m7),(8,3,m8),(9,12,m9),(10,13,m10),(11,1,m11),(12,2,m12)] ∧ Below g w w' ∧ (b 0 = true → Kd.R Kd.bool 4 w' g (fun _=>True) v0 kRow) ∧ (b 1 = true → Kd.R Kd.bool 4 w' g (fun _=>True) v1 kRow) ∧ (b 2 = true → Kd.R Kd.bool 4 w' g (fun _=>True) v2 kRow) ∧ (b 4 = true → Kd.R Kd.string 9 w' g (fun _=>True) v3 kCells) ∧ (b 5 = true → Kd.R Kd.string 9 w' g (fun _=>True) v4 [kClue]) ∧ (b 7 = true → Kd.R Kd.string 9 w' g (fun _=>True) vl aLines) ∧ (b 3 = true → m3 = .agg #[.int .i64 1,.int .i64 2,v0,v1,v2]) ∧ (b 6 = true → m6 = .agg #[.string (⟨#[]⟩ : ByteArray),.int .i64 1,.int .i64 2,v0,v1,v2,v3,v4]) ∧ (b 7 = true → m7 = .tuple #[vl,.int .i64 0]) ∧ (b 8 = true → m8 = .tuple #[vl,.int .i64 0]) ∧ (b 9 = true → m9 = vl) ∧ (b 10 = true → m10 = .int .i64 0) ∧ (b 11 = true → m11 = vl) ∧ (b 12 = true → m12 = .int .i64 0)) HT_.out HW_.out (by kernel_rfl) (by kernel_rfl) ?_ ?_ ?_
  · exact ⟨.bool false,.bool false,.bool false,.bool false,.bool false,.bool false,.bool false,.bool false,.bool false,.bool false,.bool false,.bool false,.bool false,.bool false,by simp only [putSel,Bool.false_eq_true,if_false],HB,fun h_=>absurd h_ (by decide),fun h_=>absurd h_ (by decide),fun h_=>absurd h_ (by decide),fun h_=>absurd h_ (by decide),fun h_=>absurd h_ (by decide),fun h_=>absurd h_ (by decide),fun h_=>absurd h_ (by decide),fun h_=>absurd h_ (by decide),fun h_=>absurd h_ (by decide),fun h_=>absurd h_ (by decide),fun h_=>absurd h_ (by decide),fun h_=>absurd h_ (by decide),fun h_=>absurd h_ (by decide),fun h_=>absurd h_ (by decide)⟩
  · clear HB
    refine steps_cons ?_ ?_
    · rintro b a w' ⟨v0,v1,v2,m3,v3,v4,m6,m7,m8,m9,m10,m11,m12,vl,ha,QH,R0,R1,R2,R4,R5,R7,X3,X6,X7,X8,X9,X10,X11,X12⟩ hb_ hon hoff
      refine ⟨_,rfl,fun K hK=>?_⟩
      have hsz : g ≤ w'.heap.size:=by rw [← hg];exact QH.size
      refine Kd.R_make_step Kd.bool _ 4 (by rfl) (N:=4) rfl 22 _ _ rfl 2 rfl rfl Tryz.underlying22 (.bool false) 1 bool_info rfl (by decide) (by decide) false (ok:=fun _=>True) (okp:=fun _=>True) rfl (fun _ hk=>hk) trivial (by decide) (by decide) (Below.refl _ _) (Nat.le_refl _) ?_
      intro v0 w4 ho hb _ _
      refine hK.out _ _ ⟨v0,v1,v2,m3,v3,v4,m6,m7,m8,m9,m10,m11,m12,vl,(by rw [ha];exact putSel_upk 0 hb_ rfl rfl rfl),QH.trans (hb.mono hsz),fun _=>Kd.R_lower ho hsz,fun h_=>Kd.R_below (R1 h_) hb,fun h_=>Kd.R_below (R2 h_) hb,fun h_=>Kd.R_below (R4 h_) hb,fun h_=>Kd.R_below (R5 h_) hb,fun h_=>absurd ((hoff 7 (by kernel_rfl)).symm.trans h_) (by decide),fun h_=>absurd ((hoff 3 (by kernel_rfl)).symm.trans h_) (by decide),fun h_=>absurd ((hoff 6 (by kernel_rfl)).symm.trans h_) (by decide),fun h_=>absurd ((hoff 7 (by kernel_rfl)).symm.trans h_) (by decide),fun h_=>absurd ((hoff 8 (by kernel_rfl)).symm.trans h_) (by decide),fun h_=>absurd ((hoff 9 (by kernel_rfl)).symm.trans h_) (by decide),fun h_=>absurd ((hoff 10 (by kernel_rfl)).symm.trans h_) (by decide),fun h_=>absurd ((hoff 11 (by kernel_rfl)).symm.trans h_) (by decide),fun h_=>absurd ((hoff 12 (by kernel_rfl)).symm.trans h_) (by decide)⟩
    refine steps_cons ?_ ?_
    · rintro b a w' ⟨v0,v1,v2,m3,v3,v4,m6,m7,m8,m9,m10,m11,m12,vl,ha,QH,R0,R1,R2,R4,R5,R7,X3,X6,X7,X8,X9,X10,X11,X12⟩ hb_ hon hoff
      refine ⟨_,rfl,fun K hK=>?_⟩
      have hsz : g ≤ w'.heap.size:=by rw [← hg];exact QH.size
      refine Kd.R_make_step Kd.bool _ 4 (by rfl) (N:=5) rfl 22 _ _ rfl 2 rfl rfl Tryz.underlying22 (.bool false) 1 bool_info rfl (by decide) (by decide) false (ok:=fun _=>True) (okp:=fun _=>True) rfl (fun _ hk=>hk) trivial (by decide) (by decide) (Below.refl _ _) (Nat.le_refl _) ?_
      intro v1 w4 ho hb _ _
      refine hK.out _ _ ⟨v0,v1,v2,m3,v3,v4,m6,m7,m8,m9,m10,m11,m12,vl,(by rw [ha];exact putSel_upk 1 hb_ rfl rfl rfl),QH.trans (hb.mono hsz),fun h_=>Kd.R_below (R0 h_) hb,fun _=>Kd.R_lower ho hsz,fun h_=>Kd.R_below (R2 h_) hb,fun h_=>Kd.R_below (R4 h_) hb,fun h_=>Kd.R_below (R5 h_) hb,fun h_=>absurd ((hoff 7 (by kernel_rfl)).symm.trans h_) (by decide),fun h_=>absurd ((hoff 3 (by kernel_rfl)).symm.trans h_) (by decide),fun h_=>absurd ((hoff 6 (by kernel_rfl)).symm.trans h_) (by decide),fun h_=>absurd ((hoff 7 (by kernel_rfl)).symm.trans h_) (by decide),fun h_=>absurd ((hoff 8 (by kernel_rfl)).symm.trans h_) (by decide),fun h_=>absurd ((hoff 9 (by kernel_rfl)).symm.trans h_) (by decide),fun h_=>absurd ((hoff 10 (by kernel_rfl)).symm.trans h_) (by decide),fun h_=>absurd ((hoff 11 (by kernel_rfl)).symm.trans h_) (by decide),fun h_=>absurd ((hoff 12 (by kernel_rfl)).symm.trans h_) (by decide)⟩
    refine steps_cons ?_ ?_
    · rintro b a w' ⟨v0,v1,v2,m3,v3,v4,m6,m7,m8,m9,m10,m11,m12,vl,ha,QH,R0,R1,R2,R4,R5,R7,X3,X6,X7,X8,X9,X10,X11,X12⟩ hb_ hon hoff
      refine ⟨_,rfl,fun K hK=>?_⟩
      have hsz : g ≤ w'.heap.size:=by rw [← hg];exact QH.size
      refine Kd.R_make_step Kd.bool _ 4 (by rfl) (N:=6) rfl 22 _ _ rfl 2 rfl rfl Tryz.underlying22 (.bool false) 1 bool_info rfl (by decide) (by decide) false (ok:=fun _=>True) (okp:=fun _=>True) rfl (fun _ hk=>hk) trivial (by decide) (by decide) (Below.refl _ _) (Nat.le_refl _) ?_
      intro v2 w4 ho hb _ _
      refine hK.out _ _ ⟨v0,v1,v2,m3,v3,v4,m6,m7,m8,m9,m10,m11,m12,vl,(by rw [ha];exact putSel_upk 2 hb_ rfl rfl rfl),QH.trans (hb.mono hsz),fun h_=>Kd.R_below (R0 h_) hb,fun h_=>Kd.R_below (R1 h_) hb,fun _=>Kd.R_lower ho hsz,fun h_=>Kd.R_below (R4 h_) hb,fun h_=>Kd.R_below (R5 h_) hb,fun h_=>absurd ((hoff 7 (by kernel_rfl)).symm.trans h_) (by decide),fun h_=>absurd ((hoff 3 (by kernel_rfl)).symm.trans h_) (by decide),fun h_=>absurd ((hoff 6 (by kernel_rfl)).symm.trans h_) (by decide),fun h_=>absurd ((hoff 7 (by kernel_rfl)).symm.trans h_) (by decide),fun h_=>absurd ((hoff 8 (by kernel_rfl)).symm.trans h_) (by decide),fun h_=>absurd ((hoff 9 (by kernel_rfl)).symm.trans h_) (by decide),fun h_=>absurd ((hoff 10 (by kernel_rfl)).symm.trans h_) (by decide),fun h_=>absurd ((hoff 11 (by kernel_rfl)).symm.trans h_) (by decide),fun h_=>absurd ((hoff 12 (by kernel_rfl)).symm.trans h_) (by decide)⟩
    refine steps_cons ?_ ?_
    · rintro b a w' ⟨v0,v1,v2,m3,v3,v4,m6,m7,m8,m9,m10,m11,m12,vl,ha,QH,R0,R1,R2,R4,R5,R7,X3,X6,X7,X8,X9,X10,X11,X12⟩ hb_ hon hoff
      refine ⟨_,rfl,fun K hK=>?_⟩
      have hsz : g ≤ w'.heap.size:=by rw [← hg];exact QH.size
      have e0 : a.tmps[4]? = some v0:=by rw [ha];exact putSel_on (e:=(0,4,v0)) 0 rfl rfl (hon 0 (by kernel_rfl)) rfl
      have e1 : a.tmps[5]? = some v1:=by rw [ha];exact putSel_on (e:=(1,5,v1)) 1 rfl rfl (hon 1 (by kernel_rfl)) rfl
      have e2 : a.tmps[6]? = some v2:=by rw [ha];exact putSel_on (e:=(2,6,v2)) 2 rfl rfl (hon 2 (by kernel_rfl)) rfl
      replace ha:=Aside0.mk ha
      obtain ⟨A0,n0,c0,rfl⟩:=R_slice3 (R0 (hon 0 (by kernel_rfl)))
      obtain ⟨A1,n1,c1,rfl⟩:=R_slice3 (R1 (hon 1 (by kernel_rfl)))
      obtain ⟨A2,n2,c2,rfl⟩:=R_slice3 (R2 (hon 2 (by kernel_rfl)))
      refine value_ (w1:=w') (v:=.agg #[.int .i64 1,.int .i64 2,.slice A0 n0 c0,.slice A1 n1 c1,.slice A2 n2 c2]) (by rfl) rfl ?_ ?_
      · go_simp
        (try simp only [i64_w])
        try rfl
      exact hK.out _ _ ⟨.slice A0 n0 c0,.slice A1 n1 c1,.slice A2 n2 c2,(.agg #[.int .i64 1,.int .i64 2,.slice A0 n0 c0,.slice A1 n1 c1,.slice A2 n2 c2]),v3,v4,m6,m7,m8,m9,m10,m11,m12,vl,(by rw [ha.out];exact putSel_upk 3 hb_ rfl rfl rfl),QH,R0,R1,R2,R4,R5,fun h_=>absurd ((hoff 7 (by kernel_rfl)).symm.trans h_) (by decide),fun _=>rfl,fun h_=>absurd ((hoff 6 (by kernel_rfl)).symm.trans h_) (by decide),fun h_=>absurd ((hoff 7 (by kernel_rfl)).symm.trans h_) (by decide),fun h_=>absurd ((hoff 8 (by kernel_rfl)).symm.trans h_) (by decide),fun h_=>absurd ((hoff 9 (by kernel_rfl)).symm.trans h_) (by decide),fun h_=>absurd ((hoff 10 (by kernel_rfl)).symm.trans h_) (by decide),fun h_=>absurd ((hoff 11 (by kernel_rfl)).symm.trans h_) (by decide),fun h_=>absurd ((hoff 12 (by kernel_rfl)).symm.trans h_) (by decide)⟩
    refine steps_cons ?_ ?_
    · rintro b a w' ⟨v0,v1,v2,m3,v3,v4,m6,m7,m8,m9,m10,m11,m12,vl,ha,QH,R0,R1,R2,R4,R5,R7,X3,X6,X7,X8,X9,X10,X11,X12⟩ hb_ hon hoff
      refine ⟨_,rfl,fun K hK=>?_⟩
      have hsz : g ≤ w'.heap.size:=by rw [← hg];exact QH.size
      refine Kd.R_lit_step Kd.string _ 9 ?hg (N:=8) ?hd (xs:=([(⟨#[67]⟩ : ByteArray),(⟨#[67,72]⟩ : ByteArray)] : List ByteArray)) (inner:=[.string (⟨#[67]⟩ : ByteArray),.string (⟨#[67,72]⟩ : ByteArray)]) (ok:=fun _=>True) (okp:=fun _=>True) ?hr ?hp (fun _ hk=>hk) trivial (Below.refl _ _) (Nat.le_refl _) (by simp) ?_;(case hd=>rfl);(case hg=>rfl);(case hr=>first | (go_simp;done) | (go_simp;rfl));(case hp=>exact (Reps.one (show Kd.M Kd.string _ _ _ (⟨#[67]⟩ : ByteArray) [.string (⟨#[67]⟩ : ByteArray)] from rfl) (Reps.one (show Kd.M Kd.string _ _ _ (⟨#[67,72]⟩ : ByteArray) [.string (⟨#[67,72]⟩ : ByteArray)] from rfl) (Reps.none _ _))))
      intro v3 w4 ho hb _ _
      refine hK.out _ _ ⟨v0,v1,v2,m3,v3,v4,m6,m7,m8,m9,m10,m11,m12,vl,(by rw [ha];exact putSel_upk 4 hb_ rfl rfl rfl),QH.trans (hb.mono hsz),fun h_=>Kd.R_below (R0 h_) hb,fun h_=>Kd.R_below (R1 h_) hb,fun h_=>Kd.R_below (R2 h_) hb,fun _=>Kd.R_lower ho hsz,fun h_=>Kd.R_below (R5 h_) hb,fun h_=>absurd ((hoff 7 (by kernel_rfl)).symm.trans h_) (by decide),X3,fun h_=>absurd ((hoff 6 (by kernel_rfl)).symm.trans h_) (by decide),fun h_=>absurd ((hoff 7 (by kernel_rfl)).symm.trans h_) (by decide),fun h_=>absurd ((hoff 8 (by kernel_rfl)).symm.trans h_) (by decide),fun h_=>absurd ((hoff 9 (by kernel_rfl)).symm.trans h_) (by decide),fun h_=>absurd ((hoff 10 (by kernel_rfl)).symm.trans h_) (by decide),fun h_=>absurd ((hoff 11 (by kernel_rfl)).symm.trans h_) (by decide),fun h_=>absurd ((hoff 12 (by kernel_rfl)).symm.trans h_) (by decide)⟩
    refine steps_cons ?_ ?_
    · rintro b a w' ⟨v0,v1,v2,m3,v3,v4,m6,m7,m8,m9,m10,m11,m12,vl,ha,QH,R0,R1,R2,R4,R5,R7,X3,X6,X7,X8,X9,X10,X11,X12⟩ hb_ hon hoff
      refine ⟨_,rfl,fun K hK=>?_⟩
      have hsz : g ≤ w'.heap.size:=by rw [← hg];exact QH.size
      refine Kd.R_lit_step Kd.string _ 9 ?hg (N:=9) ?hd (xs:=([kClue] : List ByteArray)) (inner:=[.string kClue]) (ok:=fun _=>True) (okp:=fun _=>True) ?hr ?hp (fun _ hk=>hk) trivial (Below.refl _ _) (Nat.le_refl _) (by simp) ?_;(case hd=>rfl);(case hg=>rfl);(case hr=>first | (go_simp;done) | (go_simp;rfl));(case hp=>exact (Reps.one (show Kd.M Kd.string _ _ _ kClue [.string kClue] from rfl) (Reps.none _ _)))
      intro v4 w4 ho hb _ _
      refine hK.out _ _ ⟨v0,v1,v2,m3,v3,v4,m6,m7,m8,m9,m10,m11,m12,vl,(by rw [ha];exact putSel_upk 5 hb_ rfl rfl rfl),QH.trans (hb.mono hsz),fun h_=>Kd.R_below (R0 h_) hb,fun h_=>Kd.R_below (R1 h_) hb,fun h_=>Kd.R_below (R2 h_) hb,fun h_=>Kd.R_below (R4 h_) hb,fun _=>Kd.R_lower ho hsz,fun h_=>absurd ((hoff 7 (by kernel_rfl)).symm.trans h_) (by decide),X3,fun h_=>absurd ((hoff 6 (by kernel_rfl)).symm.trans h_) (by decide),fun h_=>absurd ((hoff 7 (by kernel_rfl)).symm.trans h_) (by decide),fun h_=>absurd ((hoff 8 (by kernel_rfl)).symm.trans h_) (by decide),fun h_=>absurd ((hoff 9 (by kernel_rfl)).symm.trans h_) (by decide),fun h_=>absurd ((hoff 10 (by kernel_rfl)).symm.trans h_) (by decide),fun h_=>absurd ((hoff 11 (by kernel_rfl)).symm.trans h_) (by decide),fun h_=>absurd ((hoff 12 (by kernel_rfl)).symm.trans h_) (by decide)⟩
    refine steps_cons ?_ ?_
    · rintro b a w' ⟨v0,v1,v2,m3,v3,v4,m6,m7,m8,m9,m10,m11,m12,vl,ha,QH,R0,R1,R2,R4,R5,R7,X3,X6,X7,X8,X9,X10,X11,X12⟩ hb_ hon hoff
      refine ⟨_,rfl,fun K hK=>?_⟩
      have hsz : g ≤ w'.heap.size:=by rw [← hg];exact QH.size
      have e7 : a.tmps[7]? = some m3:=by rw [ha];exact putSel_on (e:=(3,7,m3)) 3 rfl rfl (hon 3 (by kernel_rfl)) rfl
      rw [X3 (hon 3 (by kernel_rfl))] at e7
      have e8 : a.tmps[8]? = some v3:=by rw [ha];exact putSel_on (e:=(4,8,v3)) 4 rfl rfl (hon 4 (by kernel_rfl)) rfl
      have e9 : a.tmps[9]? = some v4:=by rw [ha];exact putSel_on (e:=(5,9,v4)) 5 rfl rfl (hon 5 (by kernel_rfl)) rfl
      replace ha:=Aside0.mk ha
      obtain ⟨A0,n0,c0,rfl⟩:=R_slice3 (R0 (hon 0 (by kernel_rfl)))
      obtain ⟨A1,n1,c1,rfl⟩:=R_slice3 (R1 (hon 1 (by kernel_rfl)))
      obtain ⟨A2,n2,c2,rfl⟩:=R_slice3 (R2 (hon 2 (by kernel_rfl)))
      obtain ⟨A4,n4,c4,rfl⟩:=R_slice3 (R4 (hon 4 (by kernel_rfl)))
      obtain ⟨A5,n5,c5,rfl⟩:=R_slice3 (R5 (hon 5 (by kernel_rfl)))
      refine value_ (w1:=w') (v:=.agg #[.string (⟨#[]⟩ : ByteArray),.int .i64 1,.int .i64 2,.slice A0 n0 c0,.slice A1 n1 c1,.slice A2 n2 c2,.slice A4 n4 c4,.slice A5 n5 c5]) (by rfl) rfl ?_ ?_
      · go_simp
        (try simp only [i64_w])
        try rfl
      exact hK.out _ _ ⟨.slice A0 n0 c0,.slice A1 n1 c1,.slice A2 n2 c2,m3,.slice A4 n4 c4,.slice A5 n5 c5,(.agg #[.string (⟨#[]⟩ : ByteArray),.int .i64 1,.int .i64 2,.slice A0 n0 c0,.slice A1 n1 c1,.slice A2 n2 c2,.slice A4 n4 c4,.slice A5 n5 c5]),m7,m8,m9,m10,m11,m12,vl,(by rw [ha.out];exact putSel_upk 6 hb_ rfl rfl rfl),QH,R0,R1,R2,R4,R5,fun h_=>absurd ((hoff 7 (by kernel_rfl)).symm.trans h_) (by decide),X3,fun _=>rfl,fun h_=>absurd ((hoff 7 (by kernel_rfl)).symm.trans h_) (by decide),fun h_=>absurd ((hoff 8 (by kernel_rfl)).symm.trans h_) (by decide),fun h_=>absurd ((hoff 9 (by kernel_rfl)).symm.trans h_) (by decide),fun h_=>absurd ((hoff 10 (by kernel_rfl)).symm.trans h_) (by decide),fun h_=>absurd ((hoff 11 (by kernel_rfl)).symm.trans h_) (by decide),fun h_=>absurd ((hoff 12 (by kernel_rfl)).symm.trans h_) (by decide)⟩
    refine steps_cons ?_ ?_
    · rintro b a w' ⟨v0,v1,v2,m3,v3,v4,m6,m7,m8,m9,m10,m11,m12,vl,ha,QH,R0,R1,R2,R4,R5,R7,X3,X6,X7,X8,X9,X10,X11,X12⟩ hb_ hon hoff
      refine ⟨_,rfl,fun K hK=>?_⟩
      have hsz : g ≤ w'.heap.size:=by rw [← hg];exact QH.size
      have e10 : a.tmps[10]? = some m6:=by rw [ha];exact putSel_on (e:=(6,10,m6)) 6 rfl rfl (hon 6 (by kernel_rfl)) rfl
      rw [X6 (hon 6 (by kernel_rfl))] at e10
      replace ha:=Aside0.mk ha
      obtain ⟨A0,cA0,rfl,kA0,CA0⟩:=Kd.R_reads (R0 (hon 0 (by kernel_rfl)))
      obtain ⟨A1,cA1,rfl,kA1,CA1⟩:=Kd.R_reads (R1 (hon 1 (by kernel_rfl)))
      obtain ⟨A2,cA2,rfl,kA2,CA2⟩:=Kd.R_reads (R2 (hon 2 (by kernel_rfl)))
      obtain ⟨A3,cA3,rfl,kA3,CA3⟩:=Kd.R_reads (R4 (hon 4 (by kernel_rfl)))
      obtain ⟨A4,cA4,rfl,kA4,CA4⟩:=Kd.R_reads (R5 (hon 5 (by kernel_rfl)))
      have hP:=PuzR.mk CA0 kA0 CA1 kA1 CA2 kA2 CA3 kA3 CA4 kA4
      refine goes_ Tryz.func6 (by kernel_rfl) rfl #[.agg #[.string (⟨#[]⟩ : ByteArray),.int .i64 1,.int .i64 2,.slice A0 kRow.length cA0,.slice A1 kRow.length cA1,.slice A2 kRow.length cA2,.slice A3 kCells.length cA3,.slice A4 [kClue].length cA4]] (by rfl) rfl rfl (by first | (go_simp;done) | (go_simp;rfl)) ?_
      refine (draw_ok (tabs_below hT (QH.mono (by rw [hg];exact Nat.le_refl _))) hP kz kcheck).mono ?_
      rw [kdraw]
      rintro e w4 ⟨vl,rfl,ho,hb⟩
      refine ⟨_,rfl,?_⟩
      refine hK.out _ _ ⟨_,_,_,m3,_,_,m6,(.tuple #[vl,.int .i64 0]),m8,m9,m10,m11,m12,vl,(by rw [ha.out];exact putSel_upk 7 hb_ rfl rfl rfl),QH.trans (hb.mono hsz),fun h_=>Kd.R_below (R0 h_) hb,fun h_=>Kd.R_below (R1 h_) hb,fun h_=>Kd.R_below (R2 h_) hb,fun h_=>Kd.R_below (R4 h_) hb,fun h_=>Kd.R_below (R5 h_) hb,fun _=>Kd.R_lower ho hsz,X3,X6,fun _=>rfl,fun h_=>absurd ((hoff 8 (by kernel_rfl)).symm.trans h_) (by decide),fun h_=>absurd ((hoff 9 (by kernel_rfl)).symm.trans h_) (by decide),fun h_=>absurd ((hoff 10 (by kernel_rfl)).symm.trans h_) (by decide),fun h_=>absurd ((hoff 11 (by kernel_rfl)).symm.trans h_) (by decide),fun h_=>absurd ((hoff 12 (by kernel_rfl)).symm.trans h_) (by decide)⟩
    refine steps_cons ?_ ?_
    · rintro b a w' ⟨v0,v1,v2,m3,v3,v4,m6,m7,m8,m9,m10,m11,m12,vl,ha,QH,R0,R1,R2,R4,R5,R7,X3,X6,X7,X8,X9,X10,X11,X12⟩ hb_ hon hoff
      refine ⟨_,rfl,fun K hK=>?_⟩
      have hsz : g ≤ w'.heap.size:=by rw [← hg];exact QH.size
      have e1 : a.tmps[11]? = some m7:=by rw [ha];exact putSel_on (e:=(7,11,m7)) 7 rfl rfl (hon 7 (by kernel_rfl)) rfl
      rw [X7 (hon 7 (by kernel_rfl))] at e1
      replace ha:=Aside0.mk ha
      refine value_ (w1:=w') (v:=.tuple #[vl,.int .i64 0]) (by rfl) rfl ?_ ?_
      · go_simp
        (try simp only [i64_w])
        try rfl
      exact hK.out _ _ ⟨v0,v1,v2,m3,v3,v4,m6,m7,(.tuple #[vl,.int .i64 0]),m9,m10,m11,m12,vl,(by rw [ha.out];exact putSel_upk 8 hb_ rfl rfl rfl),QH,R0,R1,R2,R4,R5,R7,X3,X6,X7,fun _=>rfl,fun h_=>absurd ((hoff 9 (by kernel_rfl)).symm.trans h_) (by decide),fun h_=>absurd ((hoff 10 (by kernel_rfl)).symm.trans h_) (by decide),fun h_=>absurd ((hoff 11 (by kernel_rfl)).symm.trans h_) (by decide),fun h_=>absurd ((hoff 12 (by kernel_rfl)).symm.trans h_) (by decide)⟩
    refine steps_cons ?_ ?_
    · rintro b a w' ⟨v0,v1,v2,m3,v3,v4,m6,m7,m8,m9,m10,m11,m12,vl,ha,QH,R0,R1,R2,R4,R5,R7,X3,X6,X7,X8,X9,X10,X11,X12⟩ hb_ hon hoff
      refine ⟨_,rfl,fun K hK=>?_⟩
      have hsz : g ≤ w'.heap.size:=by rw [← hg];exact QH.size
      have e1 : a.tmps[3]? = some m8:=by rw [ha];exact putSel_on (e:=(8,3,m8)) 8 rfl rfl (hon 8 (by kernel_rfl)) rfl
      rw [X8 (hon 8 (by kernel_rfl))] at e1
      replace ha:=Aside0.mk ha
      refine value_ (w1:=w') (v:=vl) (by rfl) rfl ?_ ?_
      · go_simp
        (try simp only [i64_w])
        try rfl
      exact hK.out _ _ ⟨v0,v1,v2,m3,v3,v4,m6,m7,m8,(vl),m10,m11,m12,vl,(by rw [ha.out];exact putSel_upk 9 hb_ rfl rfl rfl),QH,R0,R1,R2,R4,R5,R7,X3,X6,X7,X8,fun _=>rfl,X10,fun h_=>absurd ((hoff 11 (by kernel_rfl)).symm.trans h_) (by decide),fun h_=>absurd ((hoff 12 (by kernel_rfl)).symm.trans h_) (by decide)⟩
    refine steps_cons ?_ ?_
    · rintro b a w' ⟨v0,v1,v2,m3,v3,v4,m6,m7,m8,m9,m10,m11,m12,vl,ha,QH,R0,R1,R2,R4,R5,R7,X3,X6,X7,X8,X9,X10,X11,X12⟩ hb_ hon hoff
      refine ⟨_,rfl,fun K hK=>?_⟩
      have hsz : g ≤ w'.heap.size:=by rw [← hg];exact QH.size
      have e1 : a.tmps[3]? = some m8:=by rw [ha];exact putSel_on (e:=(8,3,m8)) 8 rfl rfl (hon 8 (by kernel_rfl)) rfl
      rw [X8 (hon 8 (by kernel_rfl))] at e1
      replace ha:=Aside0.mk ha
      refine value_ (w1:=w') (v:=.int .i64 0) (by rfl) rfl ?_ ?_
      · go_simp
        (try simp only [i64_w])
        try rfl
      exact hK.out _ _ ⟨v0,v1,v2,m3,v3,v4,m6,m7,m8,m9,(.int .i64 0),m11,m12,vl,(by rw [ha.out];exact putSel_upk 10 hb_ rfl rfl rfl),QH,R0,R1,R2,R4,R5,R7,X3,X6,X7,X8,X9,fun _=>rfl,X11,fun h_=>absurd ((hoff 12 (by kernel_rfl)).symm.trans h_) (by decide)⟩
    refine steps_cons ?_ ?_
    · rintro b a w' ⟨v0,v1,v2,m3,v3,v4,m6,m7,m8,m9,m10,m11,m12,vl,ha,QH,R0,R1,R2,R4,R5,R7,X3,X6,X7,X8,X9,X10,X11,X12⟩ hb_ hon hoff
      refine ⟨_,rfl,fun K hK=>?_⟩
      have hsz : g ≤ w'.heap.size:=by rw [← hg];exact QH.size
      have e1 : a.tmps[12]? = some m9:=by rw [ha];exact putSel_on (e:=(9,12,m9)) 9 rfl rfl (hon 9 (by kernel_rfl)) rfl
      rw [X9 (hon 9 (by kernel_rfl))] at e1
      replace ha:=Aside0.mk ha
      refine value_ (w1:=w') (v:=vl) (by rfl) rfl ?_ ?_
      · go_simp
        (try simp only [i64_w])
        try rfl
      exact hK.out _ _ ⟨v0,v1,v2,m3,v3,v4,m6,m7,m8,m9,m10,(vl),m12,vl,(by rw [ha.out];exact putSel_upk 11 hb_ rfl rfl rfl),QH,R0,R1,R2,R4,R5,R7,X3,X6,X7,X8,X9,X10,fun _=>rfl,fun h_=>absurd ((hoff 12 (by kernel_rfl)).symm.trans h_) (by decide)⟩
    refine steps_cons ?_ ?_
    · rintro b a w' ⟨v0,v1,v2,m3,v3,v4,m6,m7,m8,m9,m10,m11,m12,vl,ha,QH,R0,R1,R2,R4,R5,R7,X3,X6,X7,X8,X9,X10,X11,X12⟩ hb_ hon hoff
      refine ⟨_,rfl,fun K hK=>?_⟩
      have hsz : g ≤ w'.heap.size:=by rw [← hg];exact QH.size
      have e1 : a.tmps[13]? = some m10:=by rw [ha];exact putSel_on (e:=(10,13,m10)) 10 rfl rfl (hon 10 (by kernel_rfl)) rfl
      rw [X10 (hon 10 (by kernel_rfl))] at e1
      replace ha:=Aside0.mk ha
      refine value_ (w1:=w') (v:=.int .i64 0) (by rfl) rfl ?_ ?_
      · go_simp
        (try simp only [i64_w])
        try rfl
      exact hK.out _ _ ⟨v0,v1,v2,m3,v3,v4,m6,m7,m8,m9,m10,m11,(.int .i64 0),vl,(by rw [ha.out];exact putSel_upk 12 hb_ rfl rfl rfl),QH,R0,R1,R2,R4,R5,R7,X3,X6,X7,X8,X9,X10,X11,fun _=>rfl⟩
    exact steps_nil
  rintro b a w' hall ⟨v0,v1,v2,m3,v3,v4,m6,m7,m8,m9,m10,m11,m12,vl,ha,QH,R0,R1,R2,R4,R5,R7,X3,X6,X7,X8,X9,X10,X11,X12⟩
  have hb0_:=hall 0 (by kernel_rfl)
  have hb1_:=hall 1 (by kernel_rfl)
  have hb2_:=hall 2 (by kernel_rfl)
  have hb3_:=hall 3 (by kernel_rfl)
  have hb4_:=hall 4 (by kernel_rfl)
  have hb5_:=hall 5 (by kernel_rfl)
  have hb6_:=hall 6 (by kernel_rfl)
  have hb7_:=hall 7 (by kernel_rfl)
  have hb8_:=hall 8 (by kernel_rfl)
  have hb9_:=hall 9 (by kernel_rfl)
  have hb10_:=hall 10 (by kernel_rfl)
  have hb11_:=hall 11 (by kernel_rfl)
  have hb12_:=hall 12 (by kernel_rfl)
  subst ha
  have Y7:=X7 hb7_
  have Y8:=X8 hb8_
  have Y9:=X9 hb9_
  have Y10:=X10 hb10_
  have Y11:=X11 hb11_
  have Y12:=X12 hb12_
  have RL:=Lib.hid (R7 hb7_)
  have QH':=Lib.hid QH
  subst Y11 Y12
  simp only [putSel,hb0_,hb1_,hb2_,hb3_,hb4_,hb5_,hb6_,hb7_,hb8_,hb9_,hb10_,hb11_,hb12_,if_true,Act.put,List.setIfInBounds_toArray,List.set_cons_zero,List.set_cons_succ]
  clear QH R0 R1 R2 R4 R5 R7 X3 X6 X7 X8 X9 X10 X11 X12 Y7 Y8 Y9 Y10 hall hb0_ hb1_ hb2_ hb3_ hb4_ hb5_ hb6_ hb7_ hb8_ hb9_ hb10_ hb11_ hb12_ HB
  obtain ⟨A,c,rfl,k,C⟩:=Kd.R_reads RL.out
  have hl4 : aLines.length = 4:=rfl
  obtain ⟨ad,eA,z1⟩:=Kd.at_string C 1 (by decide) (by rw [hl4];decide)
  cases eA
  obtain ⟨ad2,eA,z2⟩:=Kd.at_string C 2 (by decide) (by rw [hl4];decide)
  cases eA
  rw [hl4]
  replace z1 : w'.cell? ⟨ad.block,ad.off + 1,none⟩ = some (.string ⟨#[124,49,32,32,124,32,32,32,124]⟩):=z1
  replace z2 : w'.cell? ⟨ad.block,ad.off + 2,none⟩ = some (.string ⟨#[124,32,67,32,124,32,67,72,124]⟩):=z2
  clear C RL k hl4
  go_wp2
  go_ret
  exact ⟨rfl,by rw [hg];exact QH'.out⟩
end Go.Proofs.YtkblbggmpahljaaGreatDoor.Q
end
section
namespace Go.Proofs.YtkblbggmpahljaaGreatDoor.Q
open Go.RowKit Go.Proofs.YtkblbggmpahljaaGreatDoorW.PrintWords Go.Proofs.YtkblbggmpahljaaGreatDoorW.PrintLast Go.Proofs.YtkblbggmpahljaaGreatDoorW.PrintMore
set_option linter.unusedVariables false
set_option linter.unusedSimpArgs false
open Go.Proofs.YtkblbggmpahljaaGreatDoorS
theorem grun_first {H W : Int} {bl ri be : List Bool} {way : Int} : ∀ (f : Nat) (i : Int),rd (grun H W bl ri be way f i) 0 = i
  | 0,i=>rfl
  | f + 1,i=>by
    unfold grun
    split <;> rfl
theorem gslots_first {H W : Int} {bl ri be : List Bool} : ∀ (d i : Nat) (num : Int),∀ x ∈ gslots H W bl ri be d i num,(i : Int) ≤ rd x.2.2 0 ∧ (rd x.2.2 0 = (i : Int) → x.1 = num + 1)
  | 0,_,_,x,h=>by simp [gslots] at h
  | d + 1,i,num,x,h=>by
    simp only [gslots,List.mem_append] at h
    rcases h with (h | h) | h
    · split at h
      · simp only [List.mem_singleton] at h
        subst h
        exact ⟨by rw [grun_first];exact Int.le_refl _,fun _=>rfl⟩
      · simp at h
    · split at h
      · simp only [List.mem_singleton] at h
        subst h
        exact ⟨by rw [grun_first];exact Int.le_refl _,fun _=>rfl⟩
      · simp at h
    · have:=gslots_first d (i + 1) _ x h
      exact ⟨by omega,fun e=>by omega⟩
theorem gslots_uni {H W : Int} {bl ri be : List Bool} : ∀ (d i : Nat) (num : Int),∀ x ∈ gslots H W bl ri be d i num,∀ y ∈ gslots H W bl ri be d i num,rd x.2.2 0 = rd y.2.2 0 → x.1 = y.1
  | 0,_,_,x,h,_,_,_=>by simp [gslots] at h
  | d + 1,i,num,x,hx,y,hy,e=>by
    have fx:=gslots_first (d + 1) i num x hx
    have fy:=gslots_first (d + 1) i num y hy
    by_cases hi : rd x.2.2 0 = (i : Int)
    · rw [fx.2 hi,fy.2 (e.symm.trans hi)]
    · have rest : ∀ z ∈ gslots H W bl ri be (d + 1) i num,rd z.2.2 0 ≠ (i : Int) → z ∈ gslots H W bl ri be d (i + 1) (if gbegins H W bl ri be i 0 || gbegins H W bl ri be i 1 then num + 1 else num):=by
        intro z hz hne
        simp only [gslots,List.mem_append] at hz
        rcases hz with (hz | hz) | hz
        · split at hz
          · simp only [List.mem_singleton] at hz
            subst hz
            exact absurd (grun_first _ _) hne
          · simp at hz
        · split at hz
          · simp only [List.mem_singleton] at hz
            subst hz
            exact absurd (grun_first _ _) hne
          · simp at hz
        · exact hz
      exact gslots_uni d (i + 1) _ x (rest x hx hi) y (rest y hy (fun h=>hi (e.trans h))) e
theorem slots_uni {H W : Int} {bl ri be : List Bool} : ∀ x ∈ slotsOf H W bl ri be,∀ y ∈ slotsOf H W bl ri be,rd x.f2 0 = rd y.f2 0 → x.f0 = y.f0:=by
  unfold slotsOf
  split
  · intro x hx y hy e
    obtain ⟨a,ha,rfl⟩:=List.mem_map.1 hx
    obtain ⟨b,hb,rfl⟩:=List.mem_map.1 hy
    exact gslots_uni _ _ _ a ha b hb e
  · intro x hx
    cases hx
def numB (L : List S43) (i : Int) : ByteArray:=match L.find? (fun x=>rd x.f2 0 == i) with | some x=>itoaB x.f0 | none=>⟨#[]⟩
theorem rd_put {acc : List ByteArray} {a i : Int} {v : ByteArray} (h0 : 0 ≤ i) (h1 : i < acc.length) (ha : 0 ≤ a) : rdOf ByteArray.empty (acc.set a.toNat v) i = if a = i then v else rdOf ByteArray.empty acc i:=by
  unfold rdOf
  rw [List.getD_eq_getElem?_getD,List.getD_eq_getElem?_getD,List.getElem?_set]
  by_cases e : a = i
  · subst e
    rw [if_pos rfl,if_pos (by omega),if_pos rfl]
    rfl
  · rw [if_neg (by omega),if_neg e]
theorem fold_find {i : Int} (h0 : 0 ≤ i) : ∀ (L : List S43) (acc : List ByteArray),i < acc.length → (∀ x ∈ L,0 ≤ rd x.f2 0) → (∀ x ∈ L,∀ y ∈ L,rd x.f2 0 = rd y.f2 0 → x.f0 = y.f0) → rdOf ByteArray.empty (L.foldl (fun acc x=>acc.set (rdOf 0 x.f2 0).toNat (itoaB x.f0)) acc) i = match L.find? (fun x=>rd x.f2 0 == i) with | some x=>itoaB x.f0 | none=>rdOf ByteArray.empty acc i
  | [],acc,_,_,_=>rfl
  | x :: L,acc,h1,hp,hu=>by
    have ih:=fold_find h0 L (acc.set (rd x.f2 0).toNat (itoaB x.f0)) (by rw [List.length_set];exact h1) (fun y hy=>hp y (List.mem_cons_of_mem _ hy)) (fun y hy z hz=>hu y (List.mem_cons_of_mem _ hy) z (List.mem_cons_of_mem _ hz))
    have hs:=rd_put (v:=itoaB x.f0) h0 h1 (hp x List.mem_cons_self)
    rw [List.foldl_cons]
    refine Eq.trans ih ?_
    rw [List.find?_cons]
    by_cases e : rd x.f2 0 = i
    · have eb : (rd x.f2 0 == i) = true:=by rw [e];simp
      rw [eb]
      simp only
      cases hf : L.find? (fun x=>rd x.f2 0 == i) with
      | none=>simp only;rw [hs,if_pos e]
      | some y =>
        simp only
        have hm:=List.mem_of_find?_eq_some hf
        have hy:=List.find?_some hf
        have ey : rd y.f2 0 = i:=by simpa using hy
        rw [hu x List.mem_cons_self y (List.mem_cons_of_mem _ hm) (e.trans ey.symm)]
    · have eb : (rd x.f2 0 == i) = false:=by simpa using e
      rw [eb]
      simp only
      cases hf : L.find? (fun x=>rd x.f2 0 == i) with
      | none=>simp only;rw [hs,if_neg e]
      | some y=>rfl
theorem nums_find {H W : Int} {bl ri be : List Bool} (hc : gcheck H W bl ri be = 0) {n : Nat} {i : Int} (h0 : 0 ≤ i) (h1 : i < n) : rdOf ByteArray.empty (pnums (slotsOf H W bl ri be) n) i = numB (slotsOf H W bl ri be) i:=by
  unfold pnums numB
  rw [fold_find h0 _ _ (by rw [List.length_replicate];exact h1) (fun x hx=>(slots_first hc x hx).2.1) slots_uni]
  have e : rdOf ByteArray.empty (List.replicate n (⟨#[]⟩ : ByteArray)) i = ⟨#[]⟩:=by
    unfold rdOf
    rw [List.getD_eq_getElem?_getD,List.getElem?_replicate]
    split <;> rfl
  rw [e]
end Go.Proofs.YtkblbggmpahljaaGreatDoor.Q
end
