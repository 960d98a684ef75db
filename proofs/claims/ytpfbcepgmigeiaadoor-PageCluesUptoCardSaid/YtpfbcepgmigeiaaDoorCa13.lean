/-
  PageClues, WHERE WHAT IT READS IS OF BULK AT MOST 1048576: IT RETURNS true (the clues' lines have their words, in their order, and are no wider than asked), AND ITS ARGUMENTS READ AS THEY DID. The card ties utf8's two tables to the program's text.
-/
import Derived.Test.YtpfbcepgmigeiaaDoorCards
import Derived.Test.YtpfbcepgmigeiaaDoorTie
import Derived.Test.YtpfbcepgmigeiaaDoorCa8
import Derived.Test.YtpfbcepgmigeiaaDoorCa11
import Derived.Test.YtpfbcepgmigeiaaDoorCa12
set_option linter.unusedVariables false
set_option linter.unusedSimpArgs false
section
namespace Go.Proofs.YtpfbcepgmigeiaaDoor.Q
open Go.RowKit Go.Proofs.YtpfbcepgmigeiaaDoorW.PrintWords Go.Proofs.YtpfbcepgmigeiaaDoorW.PrintLast Go.Proofs.YtpfbcepgmigeiaaDoorW.PrintMore
set_option linter.unusedVariables false
set_option linter.unusedSimpArgs false
open Go.Proofs.YtpfbcepgmigeiaaDoorS
def kRow : List Bool:=List.replicate 2 false
def kCells : List ByteArray:=[⟨#[67]⟩,⟨#[67,72]⟩]
def kClue : ByteArray:=⟨#[79,108,100,32,99,97,114,32,40,50,41]⟩
def aLines : List ByteArray:=[⟨#[43,45,45,45,43,45,45,45,43]⟩,⟨#[124,49,32,32,124,32,32,32,124]⟩,⟨#[124,32,67,32,124,32,67,72,124]⟩,⟨#[43,45,45,45,43,45,45,45,43]⟩]
theorem kcheck : pcheck ⟨#[]⟩ 1 2 kRow kRow kRow kCells [kClue] = 0:=by decide +kernel
theorem kslots : slotsOf 1 2 kRow kRow kRow = [⟨1,false,[0,1]⟩]:=by kernel_rfl
theorem kitoa : itoaB 1 = ⟨#[49]⟩:=by
  have e : Lib.itoa 1 = [49]:=by
    unfold Lib.itoa
    rw [if_neg (by decide)]
    show Lib.decDigits 1 = _
    rw [Lib.decDigits,dif_pos (by decide)]
    rfl
  unfold itoaB
  rw [e]
theorem knums : pnums (slotsOf 1 2 kRow kRow kRow) 2 = [⟨#[49]⟩,⟨#[]⟩]:=by
  rw [kslots]
  show (List.replicate 2 (⟨#[]⟩ : ByteArray)).set 0 (itoaB 1) = _
  rw [kitoa]
  rfl
theorem kdraw : drawB 1 2 kRow kRow kRow kCells = aLines:=by
  unfold drawB
  rw [show kCells.length = 2 from rfl,knums]
  decide +kernel
theorem ksmall {l : List ByteArray} (h : l.all (fun s=>decide (s.size ≤ 1048576)) = true) : Small l:=fun s hs=>of_decide_eq_true (List.all_eq_true.1 h s hs)
theorem kz : PuzS ⟨#[]⟩ kCells [kClue]:=⟨by decide,ksmall (by decide +kernel),ksmall (by decide +kernel),by decide,by decide⟩
def awake21.T1 : Bool × List (List Nat × List Nat):=(true,[([],[]),([],[]),([],[]),([0,1,2],[0,1,2]),([],[]),([],[]),([3,4,5],[3,4,5]),([6],[6]),([7],[7]),([8],[8]),([8],[8]),([9,7,0,1,2,3,4,5,6,7,8,9],[9]),([10,11,0,1,2,3,4,5,6,7,8,9,10,11],[10])])
def awake21.B1 : List Nat:=[0,0,0,7,0,0,63,127,255,511,511,1023,4095]
theorem awake21.tab1 : rtab .any (opsOf Tryd.f4 1) = awake21.T1:=by kernel_rfl
theorem awake21.bits1 : waitsOk awake21.T1.2 awake21.B1 = true:=by kernel_rfl
set_option maxHeartbeats 8000000 in
set_option maxRecDepth 1000000 in
theorem rebuslaw21_awake.calls {w : World} (hT : Tabs w) : Calls Tryd.prog 4 #[] w fun e w'=>e = .returned (.bool true) ∧ Below w.heap.size w w':=by
  have hu27:=Tryd.underlying27
  have hu24:=Tryd.underlying24
  go_enter Tryd.func4,Tryd.ntmps4
  go_wp2
  have HB:=below_drew (Below.refl w.heap.size w)
  obtain ⟨g,hg⟩ : ∃ g,w.heap.size = g:=⟨_,rfl⟩
  refine start_ (n:=13) (S:=fun w'=>True) (ds:=[]) #[false,false,false,false,false,false,false,false,false,false,false,false,false] (by kernel_rfl) rfl rfl trivial (fun hHeld=>?_)
  refine with_tabW awake21.tab1 awake21.bits1 (fun HT_ HW_=>?_)
  generalize w.drew = w3 at HB hHeld ⊢
  rw [hg] at HB
  refine inv_at [0,1,2,3,4,5,6,7,8,9,10,11,12] (fun a0_ b a w'=>∃ v0 v1 v2 m3 v3 v4 m6 m7 m8 m9 m10 m11 m12 vl : Value,a = putSel a0_ b [(0,4,v0),(1,5,v1),(2,6,v2),(3,7,m3),(4,8,v3),(5,9,v4),(6,10,m6),(7,11,m7),(8,3,m8),(9,12,m9),(10,13,m10),(11,1,m11),(12,2,m12)] ∧ Below g w w' ∧ (b 0 = true → Kd.R Kd.bool 4 w' g (fun _=>True) v0 kRow) ∧ (b 1 = true → Kd.R Kd.bool 4 w' g (fun _=>True) v1 kRow) ∧ (b 2 = true → Kd.R Kd.bool 4 w' g (fun _=>True) v2 kRow) ∧ (b 4 = true → Kd.R Kd.string 9 w' g (fun _=>True) v3 kCells) ∧ (b 5 = true → Kd.R Kd.string 9 w' g (fun _=>True) v4 [kClue]) ∧ (b 7 = true → Kd.R Kd.string 9 w' g (fun _=>True) vl aLines) ∧ (b 3 = true → m3 = .agg #[.int .i64 1,.int .i64 2,v0,v1,v2]) ∧ (b 6 = true → m6 = .agg #[.string (⟨#[]⟩ : ByteArray),.int .i64 1,.int .i64 2,v0,v1,v2,v3,v4]) ∧ (b 7 = true → m7 = .tuple #[vl,.int .i64 0]) ∧ (b 8 = true → m8 = .tuple #[vl,.int .i64 0]) ∧ (b 9 = true → m9 = vl) ∧ (b 10 = true → m10 = .int .i64 0) ∧ (b 11 = true → m11 = vl) ∧ (b 12 = true → m12 = .int .i64 0)) HT_.out HW_.out (by kernel_rfl) (by kernel_rfl) ?_ ?_ ?_
  · exact ⟨.bool false,.bool false,.bool false,.bool false,.bool false,.bool false,.bool false,.bool false,.bool false,.bool false,.bool false,.bool false,.bool false,.bool false,by simp only [putSel,Bool.false_eq_true,if_false],HB,fun h_=>absurd h_ (by decide),fun h_=>absurd h_ (by decide),fun h_=>absurd h_ (by decide),fun h_=>absurd h_ (by decide),fun h_=>absurd h_ (by decide),fun h_=>absurd h_ (by decide),fun h_=>absurd h_ (by decide),fun h_=>absurd h_ (by decide),fun h_=>absurd h_ (by decide),fun h_=>absurd h_ (by decide),fun h_=>absurd h_ (by decide),fun h_=>absurd h_ (by decide),fun h_=>absurd h_ (by decide),fun h_=>absurd h_ (by decide)⟩
  · clear HB
    refine steps_cons ?_ ?_
    · rintro b a w' ⟨v0,v1,v2,m3,v3,v4,m6,m7,m8,m9,m10,m11,m12,vl,ha,QH,R0,R1,R2,R4,R5,R7,X3,X6,X7,X8,X9,X10,X11,X12⟩ hb_ hon hoff
      refine ⟨_,rfl,fun K hK=>?_⟩
      have hsz : g ≤ w'.heap.size:=by rw [← hg];exact QH.size
      refine Kd.R_make_step Kd.bool _ 4 (by rfl) (N:=4) rfl 22 _ _ rfl 2 rfl rfl Tryd.underlying22 (.bool false) 1 bool_info rfl (by decide) (by decide) false (ok:=fun _=>True) (okp:=fun _=>True) rfl (fun _ hk=>hk) trivial (by decide) (by decide) (Below.refl _ _) (Nat.le_refl _) ?_
      intro v0 w4 ho hb _ _
      refine hK.out _ _ ⟨v0,v1,v2,m3,v3,v4,m6,m7,m8,m9,m10,m11,m12,vl,(by rw [ha];exact putSel_upk 0 hb_ rfl rfl rfl),QH.trans (hb.mono hsz),fun _=>Kd.R_lower ho hsz,fun h_=>Kd.R_below (R1 h_) hb,fun h_=>Kd.R_below (R2 h_) hb,fun h_=>Kd.R_below (R4 h_) hb,fun h_=>Kd.R_below (R5 h_) hb,fun h_=>absurd ((hoff 7 (by kernel_rfl)).symm.trans h_) (by decide),fun h_=>absurd ((hoff 3 (by kernel_rfl)).symm.trans h_) (by decide),fun h_=>absurd ((hoff 6 (by kernel_rfl)).symm.trans h_) (by decide),fun h_=>absurd ((hoff 7 (by kernel_rfl)).symm.trans h_) (by decide),fun h_=>absurd ((hoff 8 (by kernel_rfl)).symm.trans h_) (by decide),fun h_=>absurd ((hoff 9 (by kernel_rfl)).symm.trans h_) (by decide),fun h_=>absurd ((hoff 10 (by kernel_rfl)).symm.trans h_) (by decide),fun h_=>absurd ((hoff 11 (by kernel_rfl)).symm.trans h_) (by decide),fun h_=>absurd ((hoff 12 (by kernel_rfl)).symm.trans h_) (by decide)⟩
    refine steps_cons ?_ ?_
    · rintro b a w' ⟨v0,v1,v2,m3,v3,v4,m6,m7,m8,m9,m10,m11,m12,vl,ha,QH,R0,R1,R2,R4,R5,R7,X3,X6,X7,X8,X9,X10,X11,X12⟩ hb_ hon hoff
      refine ⟨_,rfl,fun K hK=>?_⟩
      have hsz : g ≤ w'.heap.size:=by rw [← hg];exact QH.size
      refine Kd.R_make_step Kd.bool _ 4 (by rfl) (N:=5) rfl 22 _ _ rfl 2 rfl rfl Tryd.underlying22 (.bool false) 1 bool_info rfl (by decide) (by decide) false (ok:=fun _=>True) (okp:=fun _=>True) rfl (fun _ hk=>hk) trivial (by decide) (by decide) (Below.refl _ _) (Nat.le_refl _) ?_
      intro v1 w4 ho hb _ _
      refine hK.out _ _ ⟨v0,v1,v2,m3,v3,v4,m6,m7,m8,m9,m10,m11,m12,vl,(by rw [ha];exact putSel_upk 1 hb_ rfl rfl rfl),QH.trans (hb.mono hsz),fun h_=>Kd.R_below (R0 h_) hb,fun _=>Kd.R_lower ho hsz,fun h_=>Kd.R_below (R2 h_) hb,fun h_=>Kd.R_below (R4 h_) hb,fun h_=>Kd.R_below (R5 h_) hb,fun h_=>absurd ((hoff 7 (by kernel_rfl)).symm.trans h_) (by decide),fun h_=>absurd ((hoff 3 (by kernel_rfl)).symm.trans h_) (by decide),fun h_=>absurd ((hoff 6 (by kernel_rfl)).symm.trans h_) (by decide),fun h_=>absurd ((hoff 7 (by kernel_rfl)).symm.trans h_) (by decide),fun h_=>absurd ((hoff 8 (by kernel_rfl)).symm.trans h_) (by decide),fun h_=>absurd ((hoff 9 (by kernel_rfl)).symm.trans h_) (by decide),fun h_=>absurd ((hoff 10 (by kernel_rfl)).symm.trans h_) (by decide),fun h_=>absurd ((hoff 11 (by kernel_rfl)).symm.trans h_) (by decide),fun h_=>absurd ((hoff 12 (by kernel_rfl)).symm.trans h_) (by decide)⟩
    refine steps_cons ?_ ?_
    · rintro b a w' ⟨v0,v1,v2,m3,v3,v4,m6,m7,m8,m9,m10,m11,m12,vl,ha,QH,R0,R1,R2,R4,R5,R7,X3,X6,X7,X8,X9,X10,X11,X12⟩ hb_ hon hoff
      refine ⟨_,rfl,fun K hK=>?_⟩
      have hsz : g ≤ w'.heap.size:=by rw [← hg];exact QH.size
      refine Kd.R_make_step Kd.bool _ 4 (by rfl) (N:=6) rfl 22 _ _ rfl 2 rfl rfl Tryd.underlying22 (.bool false) 1 bool_info rfl (by decide) (by decide) false (ok:=fun _=>True) (okp:=fun _=>True) rfl (fun _ hk=>hk) trivial (by decide) (by decide) (Below.refl _ _) (Nat.le_refl _) ?_
      intro v2 w4 ho hb _ _
      refine hK.out _ _ ⟨v0,v1,v2,m3,v3,v4,m6,m7,m8,m9,m10,m11,m12,vl,(by rw [ha];exact putSel_upk 2 hb_ rfl rfl rfl),QH.trans (hb.mono hsz),fun h_=>Kd.R_below (R0 h_) hb,fun h_=>Kd.R_below (R1 h_) hb,fun _=>Kd.R_lower ho hsz,fun h_=>Kd.R_below (R4 h_) hb,fun h_=>Kd.R_below (R5 h_) hb,fun h_=>absurd ((hoff 7 (by kernel_rfl)).symm.trans h_) (by decide),fun h_=>absurd ((hoff 3 (by kernel_rfl)).symm.trans h_) (by decide),fun h_=>absurd ((hoff 6 (by kernel_rfl)).symm.trans h_) (by decide),fun h_=>absurd ((hoff 7 (by kernel_rfl)).symm.trans h_) (by decide),fun h_=>absurd ((hoff 8 (by kernel_rfl)).symm.trans h_) (by decide),fun h_=>absurd ((hoff 9 (by kernel_rfl)).symm.trans h_) (by decide),fun h_=>absurd ((hoff 10 (by kernel_rfl)).symm.trans h_) (by decide),fun h_=>absurd ((hoff 11 (by kernel_rfl)).symm.trans h_) (by decide),fun h_=>absurd ((hoff 12 (by kernel_rfl)).symm.trans h_) (by decide)⟩
    refine steps_cons ?_ ?_
    · rintro b a w' ⟨v0,v1,v2,m3,v3,v4,m6,m7,m8,m9,m10,m11,m12,vl,ha,QH,R0,R1,R2,R4,R5,R7,X3,X6,X7,X8,X9,X10,X11,X12⟩ hb_ hon hoff
      refine ⟨_,rfl,fun K hK=>?_⟩
      have hsz : g ≤ w'.heap.size:=by rw [← hg];exact QH.size
      have e0 : a.tmps[4]? = some v0:=by rw [ha];exact putSel_on (e:=(0,4,v0)) 0 rfl rfl (hon 0 (by kernel_rfl)) rfl
      have e1 : a.tmps[5]? = some v1:=by rw [ha];exact putSel_on (e:=(1,5,v1)) 1 rfl rfl (hon 1 (by kernel_rfl)) rfl
      have e2 : a.tmps[6]? = some v2:=by rw [ha];exact putSel_on (e:=(2,6,v2)) 2 rfl rfl (hon 2 (by kernel_rfl)) rfl
      replace ha:=Aside0.mk ha
      obtain ⟨A0,n0,c0,rfl⟩:=R_slice3 (R0 (hon 0 (by kernel_rfl)))
      obtain ⟨A1,n1,c1,rfl⟩:=R_slice3 (R1 (hon 1 (by kernel_rfl)))
      obtain ⟨A2,n2,c2,rfl⟩:=R_slice3 (R2 (hon 2 (by kernel_rfl)))
      refine value_ (w1:=w') (v:=.agg #[.int .i64 1,.int .i64 2,.slice A0 n0 c0,.slice A1 n1 c1,.slice A2 n2 c2]) (by rfl) rfl ?_ ?_
      · go_simp
        (try simp only [i64_w])
        try rfl
      exact hK.out _ _ ⟨.slice A0 n0 c0,.slice A1 n1 c1,.slice A2 n2 c2,(.agg #[.int .i64 1,.int .i64 2,.slice A0 n0 c0,.slice A1 n1 c1,.slice A2 n2 c2]),v3,v4,m6,m7,m8,m9,m10,m11,m12,vl,(by rw [ha.out];exact putSel_upk 3 hb_ rfl rfl rfl),QH,R0,R1,R2,R4,R5,fun h_=>absurd ((hoff 7 (by kernel_rfl)).symm.trans h_) (by decide),fun _=>rfl,fun h_=>absurd ((hoff 6 (by kernel_rfl)).symm.trans h_) (by decide),fun h_=>absurd ((hoff 7 (by kernel_rfl)).symm.trans h_) (by decide),fun h_=>absurd ((hoff 8 (by kernel_rfl)).symm.trans h_) (by decide),fun h_=>absurd ((hoff 9 (by kernel_rfl)).symm.trans h_) (by decide),fun h_=>absurd ((hoff 10 (by kernel_rfl)).symm.trans h_) (by decide),fun h_=>absurd ((hoff 11 (by kernel_rfl)).symm.trans h_) (by decide),fun h_=>absurd ((hoff 12 (by kernel_rfl)).symm.trans h_) (by decide)⟩
    refine steps_cons ?_ ?_
    · rintro b a w' ⟨v0,v1,v2,m3,v3,v4,m6,m7,m8,m9,m10,m11,m12,vl,ha,QH,R0,R1,R2,R4,R5,R7,X3,X6,X7,X8,X9,X10,X11,X12⟩ hb_ hon hoff
      refine ⟨_,rfl,fun K hK=>?_⟩
      have hsz : g ≤ w'.heap.size:=by rw [← hg];exact QH.size
      refine Kd.R_lit_step Kd.string _ 9 ?hg (N:=8) ?hd (xs:=([(⟨#[67]⟩ : ByteArray),(⟨#[67,72]⟩ : ByteArray)] : List ByteArray)) (inner:=[.string (⟨#[67]⟩ : ByteArray),.string (⟨#[67,72]⟩ : ByteArray)]) (ok:=fun _=>True) (okp:=fun _=>True) ?hr ?hp (fun _ hk=>hk) trivial (Below.refl _ _) (Nat.le_refl _) (by simp) ?_;(case hd=>rfl);(case hg=>rfl);(case hr=>first | (go_simp;done) | (go_simp;rfl));(case hp=>exact (Reps.one (show Kd.M Kd.string _ _ _ (⟨#[67]⟩ : ByteArray) [.string (⟨#[67]⟩ : ByteArray)] from rfl) (Reps.one (show Kd.M Kd.string _ _ _ (⟨#[67,72]⟩ : ByteArray) [.string (⟨#[67,72]⟩ : ByteArray)] from rfl) (Reps.none _ _))))
      intro v3 w4 ho hb _ _
      refine hK.out _ _ ⟨v0,v1,v2,m3,v3,v4,m6,m7,m8,m9,m10,m11,m12,vl,(by rw [ha];exact putSel_upk 4 hb_ rfl rfl rfl),QH.trans (hb.mono hsz),fun h_=>Kd.R_below (R0 h_) hb,fun h_=>Kd.R_below (R1 h_) hb,fun h_=>Kd.R_below (R2 h_) hb,fun _=>Kd.R_lower ho hsz,fun h_=>Kd.R_below (R5 h_) hb,fun h_=>absurd ((hoff 7 (by kernel_rfl)).symm.trans h_) (by decide),X3,fun h_=>absurd ((hoff 6 (by kernel_rfl)).symm.trans h_) (by decide),fun h_=>absurd ((hoff 7 (by kernel_rfl)).symm.trans h_) (by decide),fun h_=>absurd ((hoff 8 (by kernel_rfl)).symm.trans h_) (by decide),fun h_=>absurd ((hoff 9 (by kernel_rfl)).symm.trans h_) (by decide),fun h_=>absurd ((hoff 10 (by kernel_rfl)).symm.trans h_) (by decide),fun h_=>absurd ((hoff 11 (by kernel_rfl)).symm.trans h_) (by decide),fun h_=>absurd ((hoff 12 (by kernel_rfl)).symm.trans h_) (by decide)⟩
    refine steps_cons ?_ ?_
    · rintro b a w' ⟨v0,v1,v2,m3,v3,v4,m6,m7,m8,m9,m10,m11,m12,vl,ha,QH,R0,R1,R2,R4,R5,R7,X3,X6,X7,X8,X9,X10,X11,X12⟩ hb_ hon hoff
      refine ⟨_,rfl,fun K hK=>?_⟩
      have hsz : g ≤ w'.heap.size:=by rw [← hg];exact QH.size
      refine Kd.R_lit_step Kd.string _ 9 ?hg (N:=9) ?hd (xs:=([kClue] : List ByteArray)) (inner:=[.string kClue]) (ok:=fun _=>True) (okp:=fun _=>True) ?hr ?hp (fun _ hk=>hk) trivial (Below.refl _ _) (Nat.le_refl _) (by simp) ?_;(case hd=>rfl);(case hg=>rfl);(case hr=>first | (go_simp;done) | (go_simp;rfl));(case hp=>exact (Reps.one (show Kd.M Kd.string _ _ _ kClue [.string kClue] from rfl) (Reps.none _ _)))
      intro v4 w4 ho hb _ _
      refine hK.out _ _ ⟨v0,v1,v2,m3,v3,v4,m6,m7,m8,m9,m10,m11,m12,vl,(by rw [ha];exact putSel_upk 5 hb_ rfl rfl rfl),QH.trans (hb.mono hsz),fun h_=>Kd.R_below (R0 h_) hb,fun h_=>Kd.R_below (R1 h_) hb,fun h_=>Kd.R_below (R2 h_) hb,fun h_=>Kd.R_below (R4 h_) hb,fun _=>Kd.R_lower ho hsz,fun h_=>absurd ((hoff 7 (by kernel_rfl)).symm.trans h_) (by decide),X3,fun h_=>absurd ((hoff 6 (by kernel_rfl)).symm.trans h_) (by decide),fun h_=>absurd ((hoff 7 (by kernel_rfl)).symm.trans h_) (by decide),fun h_=>absurd ((hoff 8 (by kernel_rfl)).symm.trans h_) (by decide),fun h_=>absurd ((hoff 9 (by kernel_rfl)).symm.trans h_) (by decide),fun h_=>absurd ((hoff 10 (by kernel_rfl)).symm.trans h_) (by decide),fun h_=>absurd ((hoff 11 (by kernel_rfl)).symm.trans h_) (by decide),fun h_=>absurd ((hoff 12 (by kernel_rfl)).symm.trans h_) (by decide)⟩
    refine steps_cons ?_ ?_
    · rintro b a w' ⟨v0,v1,v2,m3,v3,v4,m6,m7,m8,m9,m10,m11,m12,vl,ha,QH,R0,R1,R2,R4,R5,R7,X3,X6,X7,X8,X9,X10,X11,X12⟩ hb_ hon hoff
      refine ⟨_,rfl,fun K hK=>?_⟩
      have hsz : g ≤ w'.heap.size:=by rw [← hg];exact QH.size
      have e7 : a.tmps[7]? = some m3:=by rw [ha];exact putSel_on (e:=(3,7,m3)) 3 rfl rfl (hon 3 (by kernel_rfl)) rfl
      rw [X3 (hon 3 (by kernel_rfl))] at e7
      have e8 : a.tmps[8]? = some v3:=by rw [ha];exact putSel_on (e:=(4,8,v3)) 4 rfl rfl (hon 4 (by kernel_rfl)) rfl
      have e9 : a.tmps[9]? = some v4:=by rw [ha];exact putSel_on (e:=(5,9,v4)) 5 rfl rfl (hon 5 (by kernel_rfl)) rfl
      replace ha:=Aside0.mk ha
      obtain ⟨A0,n0,c0,rfl⟩:=R_slice3 (R0 (hon 0 (by kernel_rfl)))
      obtain ⟨A1,n1,c1,rfl⟩:=R_slice3 (R1 (hon 1 (by kernel_rfl)))
      obtain ⟨A2,n2,c2,rfl⟩:=R_slice3 (R2 (hon 2 (by kernel_rfl)))
      obtain ⟨A4,n4,c4,rfl⟩:=R_slice3 (R4 (hon 4 (by kernel_rfl)))
      obtain ⟨A5,n5,c5,rfl⟩:=R_slice3 (R5 (hon 5 (by kernel_rfl)))
      refine value_ (w1:=w') (v:=.agg #[.string (⟨#[]⟩ : ByteArray),.int .i64 1,.int .i64 2,.slice A0 n0 c0,.slice A1 n1 c1,.slice A2 n2 c2,.slice A4 n4 c4,.slice A5 n5 c5]) (by rfl) rfl ?_ ?_
      · go_simp
        (try simp only [i64_w])
        try rfl
      exact hK.out _ _ ⟨.slice A0 n0 c0,.slice A1 n1 c1,.slice A2 n2 c2,m3,.slice A4 n4 c4,.slice A5 n5 c5,(.agg #[.string (⟨#[]⟩ : ByteArray),.int .i64 1,.int .i64 2,.slice A0 n0 c0,.slice A1 n1 c1,.slice A2 n2 c2,.slice A4 n4 c4,.slice A5 n5 c5]),m7,m8,m9,m10,m11,m12,vl,(by rw [ha.out];exact putSel_upk 6 hb_ rfl rfl rfl),QH,R0,R1,R2,R4,R5,fun h_=>absurd ((hoff 7 (by kernel_rfl)).symm.trans h_) (by decide),X3,fun _=>rfl,fun h_=>absurd ((hoff 7 (by kernel_rfl)).symm.trans h_) (by decide),fun h_=>absurd ((hoff 8 (by kernel_rfl)).symm.trans h_) (by decide),fun h_=>absurd ((hoff 9 (by kernel_rfl)).symm.trans h_) (by decide),fun h_=>absurd ((hoff 10 (by kernel_rfl)).symm.trans h_) (by decide),fun h_=>absurd ((hoff 11 (by kernel_rfl)).symm.trans h_) (by decide),fun h_=>absurd ((hoff 12 (by kernel_rfl)).symm.trans h_) (by decide)⟩
    refine steps_cons ?_ ?_
    · rintro b a w' ⟨v0,v1,v2,m3,v3,v4,m6,m7,m8,m9,m10,m11,m12,vl,ha,QH,R0,R1,R2,R4,R5,R7,X3,X6,X7,X8,X9,X10,X11,X12⟩ hb_ hon hoff
      refine ⟨_,rfl,fun K hK=>?_⟩
      have hsz : g ≤ w'.heap.size:=by rw [← hg];exact QH.size
      have e10 : a.tmps[10]? = some m6:=by rw [ha];exact putSel_on (e:=(6,10,m6)) 6 rfl rfl (hon 6 (by kernel_rfl)) rfl
      rw [X6 (hon 6 (by kernel_rfl))] at e10
      replace ha:=Aside0.mk ha
      obtain ⟨A0,cA0,rfl,kA0,CA0⟩:=Kd.R_reads (R0 (hon 0 (by kernel_rfl)))
      obtain ⟨A1,cA1,rfl,kA1,CA1⟩:=Kd.R_reads (R1 (hon 1 (by kernel_rfl)))
      obtain ⟨A2,cA2,rfl,kA2,CA2⟩:=Kd.R_reads (R2 (hon 2 (by kernel_rfl)))
      obtain ⟨A3,cA3,rfl,kA3,CA3⟩:=Kd.R_reads (R4 (hon 4 (by kernel_rfl)))
      obtain ⟨A4,cA4,rfl,kA4,CA4⟩:=Kd.R_reads (R5 (hon 5 (by kernel_rfl)))
      have hP:=PuzR.mk CA0 kA0 CA1 kA1 CA2 kA2 CA3 kA3 CA4 kA4
      refine goes_ Tryd.func9 (by kernel_rfl) rfl #[.agg #[.string (⟨#[]⟩ : ByteArray),.int .i64 1,.int .i64 2,.slice A0 kRow.length cA0,.slice A1 kRow.length cA1,.slice A2 kRow.length cA2,.slice A3 kCells.length cA3,.slice A4 [kClue].length cA4]] (by rfl) rfl rfl (by first | (go_simp;done) | (go_simp;rfl)) ?_
      refine (draw_ok (tabs_below hT (QH.mono (by rw [hg];exact Nat.le_refl _))) hP kz kcheck).mono ?_
      rw [kdraw]
      rintro e w4 ⟨vl,rfl,ho,hb⟩
      refine ⟨_,rfl,?_⟩
      refine hK.out _ _ ⟨_,_,_,m3,_,_,m6,(.tuple #[vl,.int .i64 0]),m8,m9,m10,m11,m12,vl,(by rw [ha.out];exact putSel_upk 7 hb_ rfl rfl rfl),QH.trans (hb.mono hsz),fun h_=>Kd.R_below (R0 h_) hb,fun h_=>Kd.R_below (R1 h_) hb,fun h_=>Kd.R_below (R2 h_) hb,fun h_=>Kd.R_below (R4 h_) hb,fun h_=>Kd.R_below (R5 h_) hb,fun _=>Kd.R_lower ho hsz,X3,X6,fun _=>rfl,fun h_=>absurd ((hoff 8 (by kernel_rfl)).symm.trans h_) (by decide),fun h_=>absurd ((hoff 9 (by kernel_rfl)).symm.trans h_) (by decide),fun h_=>absurd ((hoff 10 (by kernel_rfl)).symm.trans h_) (by decide),fun h_=>absurd ((hoff 11 (by kernel_rfl)).symm.trans h_) (by decide),fun h_=>absurd ((hoff 12 (by kernel_rfl)).symm.trans h_) (by decide)⟩
    refine steps_cons ?_ ?_
    · rintro b a w' ⟨v0,v1,v2,m3,v3,v4,m6,m7,m8,m9,m10,m11,m12,vl,ha,QH,R0,R1,R2,R4,R5,R7,X3,X6,X7,X8,X9,X10,X11,X12⟩ hb_ hon hoff
      refine ⟨_,rfl,fun K hK=>?_⟩
      have hsz : g ≤ w'.heap.size:=by rw [← hg];exact QH.size
      have e1 : a.tmps[11]? = some m7:=by rw [ha];exact putSel_on (e:=(7,11,m7)) 7 rfl rfl (hon 7 (by kernel_rfl)) rfl
      rw [X7 (hon 7 (by kernel_rfl))] at e1
      replace ha:=Aside0.mk ha
      refine value_ (w1:=w') (v:=.tuple #[vl,.int .i64 0]) (by rfl) rfl ?_ ?_
      · go_simp
        (try simp only [i64_w])
        try rfl
      exact hK.out _ _ ⟨v0,v1,v2,m3,v3,v4,m6,m7,(.tuple #[vl,.int .i64 0]),m9,m10,m11,m12,vl,(by rw [ha.out];exact putSel_upk 8 hb_ rfl rfl rfl),QH,R0,R1,R2,R4,R5,R7,X3,X6,X7,fun _=>rfl,fun h_=>absurd ((hoff 9 (by kernel_rfl)).symm.trans h_) (by decide),fun h_=>absurd ((hoff 10 (by kernel_rfl)).symm.trans h_) (by decide),fun h_=>absurd ((hoff 11 (by kernel_rfl)).symm.trans h_) (by decide),fun h_=>absurd ((hoff 12 (by kernel_rfl)).symm.trans h_) (by decide)⟩
    refine steps_cons ?_ ?_
    · rintro b a w' ⟨v0,v1,v2,m3,v3,v4,m6,m7,m8,m9,m10,m11,m12,vl,ha,QH,R0,R1,R2,R4,R5,R7,X3,X6,X7,X8,X9,X10,X11,X12⟩ hb_ hon hoff
      refine ⟨_,rfl,fun K hK=>?_⟩
      have hsz : g ≤ w'.heap.size:=by rw [← hg];exact QH.size
      have e1 : a.tmps[3]? = some m8:=by rw [ha];exact putSel_on (e:=(8,3,m8)) 8 rfl rfl (hon 8 (by kernel_rfl)) rfl
      rw [X8 (hon 8 (by kernel_rfl))] at e1
      replace ha:=Aside0.mk ha
      refine value_ (w1:=w') (v:=vl) (by rfl) rfl ?_ ?_
      · go_simp
        (try simp only [i64_w])
        try rfl
      exact hK.out _ _ ⟨v0,v1,v2,m3,v3,v4,m6,m7,m8,(vl),m10,m11,m12,vl,(by rw [ha.out];exact putSel_upk 9 hb_ rfl rfl rfl),QH,R0,R1,R2,R4,R5,R7,X3,X6,X7,X8,fun _=>rfl,X10,fun h_=>absurd ((hoff 11 (by kernel_rfl)).symm.trans h_) (by decide),fun h_=>absurd ((hoff 12 (by kernel_rfl)).symm.trans h_) (by decide)⟩
    refine steps_cons ?_ ?_
    · rintro b a w' ⟨v0,v1,v2,m3,v3,v4,m6,m7,m8,m9,m10,m11,m12,vl,ha,QH,R0,R1,R2,R4,R5,R7,X3,X6,X7,X8,X9,X10,X11,X12⟩ hb_ hon hoff
      refine ⟨_,rfl,fun K hK=>?_⟩
      have hsz : g ≤ w'.heap.size:=by rw [← hg];exact QH.size
      have e1 : a.tmps[3]? = some m8:=by rw [ha];exact putSel_on (e:=(8,3,m8)) 8 rfl rfl (hon 8 (by kernel_rfl)) rfl
      rw [X8 (hon 8 (by kernel_rfl))] at e1
      replace ha:=Aside0.mk ha
      refine value_ (w1:=w') (v:=.int .i64 0) (by rfl) rfl ?_ ?_
      · go_simp
        (try simp only [i64_w])
        try rfl
      exact hK.out _ _ ⟨v0,v1,v2,m3,v3,v4,m6,m7,m8,m9,(.int .i64 0),m11,m12,vl,(by rw [ha.out];exact putSel_upk 10 hb_ rfl rfl rfl),QH,R0,R1,R2,R4,R5,R7,X3,X6,X7,X8,X9,fun _=>rfl,X11,fun h_=>absurd ((hoff 12 (by kernel_rfl)).symm.trans h_) (by decide)⟩
    refine steps_cons ?_ ?_
    · rintro b a w' ⟨v0,v1,v2,m3,v3,v4,m6,m7,m8,m9,m10,m11,m12,vl,ha,QH,R0,R1,R2,R4,R5,R7,X3,X6,X7,X8,X9,X10,X11,X12⟩ hb_ hon hoff
      refine ⟨_,rfl,fun K hK=>?_⟩
      have hsz : g ≤ w'.heap.size:=by rw [← hg];exact QH.size
      have e1 : a.tmps[12]? = some m9:=by rw [ha];exact putSel_on (e:=(9,12,m9)) 9 rfl rfl (hon 9 (by kernel_rfl)) rfl
      rw [X9 (hon 9 (by kernel_rfl))] at e1
      replace ha:=Aside0.mk ha
      refine value_ (w1:=w') (v:=vl) (by rfl) rfl ?_ ?_
      · go_simp
        (try simp only [i64_w])
        try rfl
      exact hK.out _ _ ⟨v0,v1,v2,m3,v3,v4,m6,m7,m8,m9,m10,(vl),m12,vl,(by rw [ha.out];exact putSel_upk 11 hb_ rfl rfl rfl),QH,R0,R1,R2,R4,R5,R7,X3,X6,X7,X8,X9,X10,fun _=>rfl,fun h_=>absurd ((hoff 12 (by kernel_rfl)).symm.trans h_) (by decide)⟩
    refine steps_cons ?_ ?_
    · rintro b a w' ⟨v0,v1,v2,m3,v3,v4,m6,m7,m8,m9,m10,m11,m12,vl,ha,QH,R0,R1,R2,R4,R5,R7,X3,X6,X7,X8,X9,X10,X11,X12⟩ hb_ hon hoff
      refine ⟨_,rfl,fun K hK=>?_⟩
      have hsz : g ≤ w'.heap.size:=by rw [← hg];exact QH.size
      have e1 : a.tmps[13]? = some m10:=by rw [ha];exact putSel_on (e:=(10,13,m10)) 10 rfl rfl (hon 10 (by kernel_rfl)) rfl
      rw [X10 (hon 10 (by kernel_rfl))] at e1
      replace ha:=Aside0.mk ha
      refine value_ (w1:=w') (v:=.int .i64 0) (by rfl) rfl ?_ ?_
      · go_simp
        (try simp only [i64_w])
        try rfl
      exact hK.out _ _ ⟨v0,v1,v2,m3,v3,v4,m6,m7,m8,m9,m10,m11,(.int .i64 0),vl,(by rw [ha.out];exact putSel_upk 12 hb_ rfl rfl rfl),QH,R0,R1,R2,R4,R5,R7,X3,X6,X7,X8,X9,X10,X11,fun _=>rfl⟩
    exact steps_nil
  rintro b a w' hall ⟨v0,v1,v2,m3,v3,v4,m6,m7,m8,m9,m10,m11,m12,vl,ha,QH,R0,R1,R2,R4,R5,R7,X3,X6,X7,X8,X9,X10,X11,X12⟩
  have hb0_:=hall 0 (by kernel_rfl)
  have hb1_:=hall 1 (by kernel_rfl)
  have hb2_:=hall 2 (by kernel_rfl)
  have hb3_:=hall 3 (by kernel_rfl)
  have hb4_:=hall 4 (by kernel_rfl)
  have hb5_:=hall 5 (by kernel_rfl)
  have hb6_:=hall 6 (by kernel_rfl)
  have hb7_:=hall 7 (by kernel_rfl)
  have hb8_:=hall 8 (by kernel_rfl)
  have hb9_:=hall 9 (by kernel_rfl)
  have hb10_:=hall 10 (by kernel_rfl)
  have hb11_:=hall 11 (by kernel_rfl)
  have hb12_:=hall 12 (by kernel_rfl)
  subst ha
  have Y7:=X7 hb7_
  have Y8:=X8 hb8_
  have Y9:=X9 hb9_
  have Y10:=X10 hb10_
  have Y11:=X11 hb11_
  have Y12:=X12 hb12_
  have RL:=Lib.hid (R7 hb7_)
  have QH':=Lib.hid QH
  subst Y11 Y12
  simp only [putSel,hb0_,hb1_,hb2_,hb3_,hb4_,hb5_,hb6_,hb7_,hb8_,hb9_,hb10_,hb11_,hb12_,if_true,Act.put,List.setIfInBounds_toArray,List.set_cons_zero,List.set_cons_succ]
  clear QH R0 R1 R2 R4 R5 R7 X3 X6 X7 X8 X9 X10 X11 X12 Y7 Y8 Y9 Y10 hall hb0_ hb1_ hb2_ hb3_ hb4_ hb5_ hb6_ hb7_ hb8_ hb9_ hb10_ hb11_ hb12_ HB
  obtain ⟨A,c,rfl,k,C⟩:=Kd.R_reads RL.out
  have hl4 : aLines.length = 4:=rfl
  obtain ⟨ad,eA,z1⟩:=Kd.at_string C 1 (by decide) (by rw [hl4];decide)
  cases eA
  obtain ⟨ad2,eA,z2⟩:=Kd.at_string C 2 (by decide) (by rw [hl4];decide)
  cases eA
  rw [hl4]
  replace z1 : w'.cell? ⟨ad.block,ad.off + 1,none⟩ = some (.string ⟨#[124,49,32,32,124,32,32,32,124]⟩):=z1
  replace z2 : w'.cell? ⟨ad.block,ad.off + 2,none⟩ = some (.string ⟨#[124,32,67,32,124,32,67,72,124]⟩):=z2
  clear C RL k hl4
  go_wp2
  go_ret
  exact ⟨rfl,by rw [hg];exact QH'.out⟩
end Go.Proofs.YtpfbcepgmigeiaaDoor.Q
end
section
namespace Go.Proofs.YtpfbcepgmigeiaaDoor.Q
open Go.RowKit Go.Shelf Go.Lib Go.Proofs.YtpfbcepgmigeiaaDoorW.PrintWords Go.Proofs.YtpfbcepgmigeiaaDoorW.PrintLast Go.Proofs.YtpfbcepgmigeiaaDoorW.PrintMore
set_option linter.unusedVariables false
set_option linter.unusedSimpArgs false
open Go.Proofs.YtpfbcepgmigeiaaDoorS
theorem catL_cons (a : ByteArray) (l : List ByteArray) : catL (a :: l) = a.data.toList ++ catL l:=by simp [catL]
theorem words_len {c : ByteArray} (h : uvalid c = true) : (catL (goFieldsP blk c)).length ≤ c.size:=by
  obtain ⟨rs,hv,rfl⟩:=valid_runes h
  rw [words_en hv,eb_size]
  exact nb_length rs
theorem okW_count : ∀ (l : List (List Nat)),(∀ x ∈ l,okW x) → l.length ≤ (en l.flatten).length
  | [],_=>Nat.zero_le _
  | x :: l,h=>by
    have h2:=okW_count l (fun y hy=>h y (List.mem_cons_of_mem _ hy))
    have h3:=List.length_pos_iff.2 (h x (List.mem_cons_self ..)).1
    have h4:=en_length x
    rw [List.flatten_cons,en_append,List.length_append,List.length_cons]
    omega
theorem words_count' {rs : List Nat} (hv : vr rs) : (goFieldsP blk (eb rs)).length ≤ (eb rs).size:=by
  obtain ⟨B,h1,h2,h3⟩:=fields_en hv
  have h4:=okW_count B h3
  have h5:=nb_length rs
  rw [h1,List.length_map,eb_size]
  rw [h2] at h4
  omega
theorem words_count {c : ByteArray} (h : uvalid c = true) : (goFieldsP blk c).length ≤ c.size:=by
  obtain ⟨rs,hv,rfl⟩:=valid_runes h
  exact words_count' hv
theorem want_len {L : List S36} {down : Bool} {title : ByteArray} {clues : List ByteArray} (hl : (clues ++ [title]).all uline = true) (hc : clues.length = L.length) : ∀ m : Nat,m ≤ L.length → (wantN L down clues m).length ≤ 960 * m
  | 0,_=>Nat.le_refl _
  | m + 1,h=>by
    have ih:=want_len (down:=down) hl hc m (by omega)
    obtain ⟨h3,h4⟩:=line_at hl (m:=m) (by omega)
    have h5:=words_len h3
    have h6 : (wantAt L down clues m).length ≤ 960:=by
      unfold wantAt
      split
      · omega
      · exact Nat.zero_le _
    simp only [wantN,List.length_append]
    omega
theorem cnt_le (L : List S36) (down : Bool) : ∀ m,cntN L down m ≤ m
  | 0=>Nat.le_refl _
  | m + 1=>by
    have:=cnt_le L down m
    simp only [cntN]
    split <;> omega
theorem ba_data (s : ByteArray) : (⟨s.data.toList.toArray⟩ : ByteArray) = s:=by cases s;simp
theorem ba_len (s : ByteArray) : s.data.toList.length = s.size:=by rw [Array.length_toList];rfl
set_option maxHeartbeats 8000000 in
set_option maxRecDepth 1000000 in
theorem PageClues.calls0 {title : ByteArray} {H W : Int} {A2 : Option Addr} {c2 : Nat} {bl : List Bool} {A3 : Option Addr} {c3 : Nat} {ri : List Bool} {A4 : Option Addr} {c4 : Nat} {be : List Bool} {A5 : Option Addr} {c5 : Nat} {cells : List ByteArray} {A6 : Option Addr} {c6 : Nat} {clues : List ByteArray} {w : World} (hT : Tabs w) (hP : PuzR A2 c2 bl A3 c3 ri A4 c4 be A5 c5 cells A6 c6 clues w) (hz : PuzS title cells clues) (down : Bool) (width er : Int) (he : er ≠ 0)
    (hc : ∀ w2,Tabs w2 → PuzR A2 c2 bl A3 c3 ri A4 c4 be A5 c5 cells A6 c6 clues w2 → Calls Tryd.prog 5 #[.agg #[.string title,.int .i64 H,.int .i64 W,.slice A2 bl.length c2,.slice A3 ri.length c3,.slice A4 be.length c4,.slice A5 cells.length c5,.slice A6 clues.length c6],.bool down,.int .i64 width] w2 fun e w'=>e = .returned (.tuple #[.slice none 0 0,.int .i64 er]) ∧ Below w2.heap.size w2 w') :
    Calls Tryd.prog 3 #[.agg #[.string title,.int .i64 H,.int .i64 W,.slice A2 bl.length c2,.slice A3 ri.length c3,.slice A4 be.length c4,.slice A5 cells.length c5,.slice A6 clues.length c6],.bool down,.int .i64 width] w fun e w'=>e = .returned (.bool true) ∧ Below w.heap.size w w':=by
  have hx:=box1 w (.cells #[.string title,.int .i64 H,.int .i64 W,.slice A2 bl.length c2,.slice A3 ri.length c3,.slice A4 be.length c4,.slice A5 cells.length c5,.slice A6 clues.length c6] 27)
  have px:=cells8 hx.1
  replace hx:=Lib.hid hx
  replace hc:=Lib.hid hc
  have hu27:=Tryd.underlying27
  have te : (er != 0) = true:=bne_iff_ne.2 he
  replace he:=Lib.hid he
  go_enter Tryd.func3,Tryd.ntmps3
  go_wp2_with (first
    | (go_at_call 4;go_must (refine (rebuslaw21_awake.calls (tabs_below hT hx.out.2)).mono ?_;rintro e w2 ⟨rfl,hb2⟩;have P2:=Lib.hid (blk_below hx.out.1 hb2);have p2:=cells8 P2.out;have B2:=Lib.hid (below_step hx.out.2 hb2);clear hb2))
    | (go_at_call 5;go_must (refine (hc.out _ (tabs_below hT B2.out) (hP.below B2.out)).mono ?_;rintro e w4 ⟨rfl,hb4⟩;have B4:=Lib.hid (below_step B2.out hb4);clear hb4)))
  go_ret
  exact ⟨rfl,B4.out⟩
set_option maxHeartbeats 16000000 in
set_option maxRecDepth 1000000 in
theorem PageClues.calls1 {title : ByteArray} {H W : Int} {A2 : Option Addr} {c2 : Nat} {bl : List Bool} {A3 : Option Addr} {c3 : Nat} {ri : List Bool} {A4 : Option Addr} {c4 : Nat} {be : List Bool} {A5 : Option Addr} {c5 : Nat} {cells : List ByteArray} {A6 : Option Addr} {c6 : Nat} {clues : List ByteArray} {w : World} (hT : Tabs w) (hP : PuzR A2 c2 bl A3 c3 ri A4 c4 be A5 c5 cells A6 c6 clues w) (hz : PuzS title cells clues) (hp : pcheck title H W bl ri be cells clues = 0) (down : Bool) {width : Int} (hw1 : 10 ≤ width) (hw2 : width ≤ 120) :
    Calls Tryd.prog 3 #[.agg #[.string title,.int .i64 H,.int .i64 W,.slice A2 bl.length c2,.slice A3 ri.length c3,.slice A4 be.length c4,.slice A5 cells.length c5,.slice A6 clues.length c6],.bool down,.int .i64 width] w fun e w'=>e = .returned (.bool true) ∧ Below w.heap.size w w':=by
  obtain ⟨hg,-,-,hcl,hli⟩:=pcheck_right hp
  obtain ⟨hH,hW,hl⟩:=gcheck_ok hg
  have hm:=mul_small hH hW
  have hn : 1 ≤ bl.length ∧ bl.length ≤ 256:=by omega
  have hnum:=slots_num hg hn.2
  have hfac : (slotsOf H W bl ri be).length ≤ 512:=by have:=(slotsOf_facts hg).1;omega
  have hLs : slots_List.f H W bl ri be = some (slotsOf H W bl ri be):=rfl
  have hgood:=clues_good (down:=down) hw1 hli hnum hcl (slotsOf H W bl ri be).length (Nat.le_refl _)
  have hwl:=want_len (down:=down) hli hcl (slotsOf H W bl ri be).length (Nat.le_refl _)
  have hwl2:=fun m h=>want_len (down:=down) hli hcl m h
  have hcb : cluesB H W bl ri be clues down width = cluesN (slotsOf H W bl ri be) down clues width (slotsOf H W bl ri be).length:=rfl
  have hck:=fun (w2 : World) (t2 : Tabs w2) (p2 : PuzR A2 c2 bl A3 c3 ri A4 c4 be A5 c5 cells A6 c6 clues w2)=>clues_ok t2 p2 hz hp down hw1 hw2
  obtain ⟨L,hL⟩ : ∃ L,slotsOf H W bl ri be = L:=⟨_,rfl⟩
  rw [hcb] at hck
  rw [hL] at hfac hLs hcl hgood hwl hck hwl2
  clear hcb hnum
  obtain ⟨⟨hf1,hf2,hf3⟩,hFl⟩:=hgood
  obtain ⟨F,hF⟩ : ∃ F,cluesN L down clues width L.length = F:=⟨_,rfl⟩
  rw [hF] at hf1 hf2 hf3 hFl hck
  have hFl2 : F.length ≤ 2000000:=by omega
  have hx:=box1 w (.cells #[.string title,.int .i64 H,.int .i64 W,.slice A2 bl.length c2,.slice A3 ri.length c3,.slice A4 be.length c4,.slice A5 cells.length c5,.slice A6 clues.length c6] 27)
  have px:=cells8 hx.1
  replace hx:=Lib.hid hx
  replace hp:=Lib.hid hp
  replace hfac:=Lib.hid hfac
  replace hLs:=Lib.hid hLs
  replace hL:=Lib.hid hL
  replace hm:=Lib.hid hm
  replace hl:=Lib.hid hl
  replace hg:=Lib.hid hg
  replace hcl:=Lib.hid hcl
  replace hli:=Lib.hid hli
  replace hck:=Lib.hid hck
  replace hF:=Lib.hid hF
  replace hf1:=Lib.hid hf1
  replace hf2:=Lib.hid hf2
  replace hf3:=Lib.hid hf3
  replace hwl:=Lib.hid hwl
  replace hwl2:=Lib.hid hwl2
  replace hFl:=Lib.hid hFl
  have hu27:=Tryd.underlying27
  have hu24:=Tryd.underlying24
  have hu36:=Tryd.underlying36
  have t0 : ((0 : Int) != 0) = false:=rfl
  go_enter Tryd.func3,Tryd.ntmps3
  go_wp2_with (first
    | (go_at_call 4;go_must (refine (rebuslaw21_awake.calls (tabs_below hT hx.out.2)).mono ?_;rintro e w2 ⟨rfl,hb2⟩;have P2:=Lib.hid (blk_below hx.out.1 hb2);have p2:=cells8 P2.out;have B2:=Lib.hid (below_step hx.out.2 hb2);clear hb2))
    | (go_at_call 5;go_must (refine (hck.out _ (tabs_below hT B2.out) (hP.below B2.out)).mono ?_;rintro e w4 ⟨vF,rfl,RF,hb4⟩;obtain ⟨AF,cF,rfl⟩:=Kd.R_slice RF;replace RF:=Lib.hid (Kd.R_lower RF B2.out.size);have P4:=Lib.hid (blk_below P2.out hb4);have p4:=cells8 P4.out;have B4:=Lib.hid (below_step B2.out hb4);clear hb4 p2 P2 B2))
    | (go_at_call 6;go_must (have hPx:=hP.below B4.out;refine (slots_List.calls _ _ _ _ _ _ _ _ _ _ _ _ _ hPx.r2 hPx.k2 hPx.r3 hPx.k3 hPx.r4 hPx.k4 hLs.out).mono ?_;clear hPx;rintro e w7 ⟨vL,rfl,hS7,hb7⟩;obtain ⟨AL,cL,rfl⟩:=Kd.S_slice hS7;replace hS7:=Lib.hid (Kd.S_lower hS7 B4.out.size);have P7:=Lib.hid (blk_below P4.out hb7);have RF7:=Lib.hid (Kd.R_below RF.out hb7);have B7:=Lib.hid (below_step B4.out hb7);clear hb7 p4 P4 B4 RF)))
  clear px
  go_loopw [9,11,39] (fun v9 v11 v39 wr=>∃ (m : Nat) (j n : Int) (s : ByteArray),v9 = .string s ∧ v11 = .int .i64 n ∧ v39 = .int .i64 j ∧ Hid (j = m ∧ m ≤ L.length ∧ n = cntN L down m ∧ s.data.toList = wantN L down clues m) ∧ Hid (wr.heap[w.heap.size]? = some (.cells #[.string title,.int .i64 H,.int .i64 W,.slice A2 bl.length c2,.slice A3 ri.length c3,.slice A4 be.length c4,.slice A5 cells.length c5,.slice A6 clues.length c6] 27 (0,0))) ∧ Hid (Kd.R Kd.string 9 wr w.heap.size (fun _=>True) (.slice AF F.length cF) F) ∧ Hid (Kd.S k36 36 wr w.heap.size (fun _=>True) (.slice AL L.length cL) L) ∧ Hid (Below w.heap.size w wr)) (fun _ _ v39 _=>L.length - (intOf v39).toNat)
  case atStart=>exact ⟨0,0,0,⟨#[]⟩,rfl,rfl,rfl,Lib.hid ⟨rfl,Nat.zero_le _,rfl,rfl⟩,P7,RF7,hS7,B7⟩
  case round =>
    clear P7 RF7 hS7 B7
    obtain ⟨m,j,n,s,rfl,rfl,rfl,hj,P7,RF7,hS7,B7⟩:=hrel
    have hnb : 0 ≤ n ∧ n ≤ 512:=by have h1:=cnt_le L down m;have:=hj.out;have:=hfac.out;omega
    have hnb0 : 0 ≤ n:=hnb.1
    have hnb1 : n ≤ 512:=hnb.2
    clear hnb
    by_cases hlt : m < L.length
    · have tlt : decide (j < (L.length : Int)) = true:=decide_eq_true (by have:=hj.out;omega)
      have hj0 : 0 ≤ j:=by have:=hj.out;omega
      have hj1 : j < (L.length : Int):=by have:=hj.out;omega
      have ej : wrap64 (j + 1) = j + 1:=w64 (by omega) (by have:=hfac.out;omega)
      obtain ⟨ad,Ax,cx,eA,z0,z1,z2,zc,hC⟩:=at_T36 (Kd.S_reads' hS7.out).2.2 j hj0 hj1
      cases eA
      have hsn : wantN L down clues (m + 1) = wantN L down clues m ++ wantAt L down clues m:=rfl
      have hcn : cntN L down (m + 1) = cntN L down m + (if dnAt L down m = true then 1 else 0):=rfl
      unfold wantAt at hsn
      unfold dnAt at hsn hcn
      rw [← hj.out.1] at hsn hcn
      obtain ⟨x,hx2⟩ : ∃ x,rd_T36 L j = x:=⟨_,rfl⟩
      rw [hx2] at z0 z1 z2 zc hsn hcn
      have hwb:=hwl2.out (m + 1) hlt
      have hwb1 : (wantN L down clues (m + 1)).length ≤ 500000:=by have:=hfac.out;omega
      have q8:=box1 wr (.cells #[.int .i64 x.f0,.bool x.f1,.slice Ax x.f2.length cx] 36)
      have D8:=q8.2
      have x8:=cells3 q8.1
      have P8:=Lib.hid (blk_below P7.out D8)
      have p8:=cells8 P8.out
      have RF8:=Lib.hid (Kd.R_below RF7.out D8)
      have S8:=Lib.hid (Kd.S_below hS7.out D8)
      have B8:=Lib.hid (below_step B7.out D8)
      obtain ⟨ad6,eA6,z6⟩:=Kd.at_string (hP.below B8.out).r6 j hj0 (by rw [hcl.out];exact hj1)
      cases eA6
      replace D8:=Lib.hid D8
      have hlc:=line_at hli.out (m:=m) (by rw [hcl.out];exact hlt)
      rw [← hj.out.1] at hlc
      obtain ⟨c,hc⟩ : ∃ c,rdOf ByteArray.empty clues j = c:=⟨_,rfl⟩
      rw [hc] at z6 hlc hsn
      by_cases hd : x.f1 = down
      · have hd2 : (x.f1 == down) = true:=by rw [hd];exact beq_self_eq_true down
        have hjc : j < (clues.length : Int):=by rw [hcl.out];exact hj1
        have tjc : decide (j < (clues.length : Int)) = true:=decide_eq_true hjc
        rw [if_pos hd2] at hsn hcn
        obtain ⟨WL,hWL⟩ : ∃ l,goFieldsP blk c = l:=⟨_,rfl⟩
        have hwd:=fun w=>words_calls c w (by omega)
        have hWl : WL.length ≤ 960:=by rw [← hWL];exact Nat.le_trans (words_count hlc.1) hlc.2
        rw [hWL] at hsn
        simp only [hWL] at hwd
        obtain ⟨F1,hF1⟩ : ∃ y,wantN L down clues (m + 1) = y:=⟨_,rfl⟩
        rw [hF1] at hsn hwb1
        have hj2:=Lib.hid (show j + 1 = ((m + 1 : Nat) : Int) ∧ m + 1 ≤ L.length ∧ n + 1 = cntN L down (m + 1) from ⟨by have:=hj.out;omega,hlt,by rw [hcn];have:=hj.out;omega⟩)
        have hsn2:=Lib.hid (show s.data.toList ++ catL WL = F1 by rw [hsn,← hj.out.2.2.2])
        have en1 : wrap64 (n + 1) = n + 1:=w64 (by omega) (by omega)
        replace hF1:=Lib.hid hF1
        replace hWL:=Lib.hid hWL
        replace hwd:=Lib.hid hwd
        replace hx2:=Lib.hid hx2
        replace hd:=Lib.hid hd
        replace hc:=Lib.hid hc
        replace hj:=Lib.hid hj.out.1
        clear hsn hcn hlc hwb hC zc
        clear RF7 hS7 P7 B7
        go_wp2_with (go_at_call 7;go_must (refine (hwd.out _).mono ?_;rintro e w5 ⟨vT,rfl,RT,hb⟩;obtain ⟨AT,cT,rfl⟩:=Kd.R_slice RT;replace RT:=Lib.hid (Kd.R_lower RT B8.out.size);have P5:=Lib.hid (blk_below P8.out hb);have RF5:=Lib.hid (Kd.R_below RF8.out hb);have S5:=Lib.hid (Kd.S_below S8.out hb);have B5:=Lib.hid (below_step B8.out hb);clear hb P8 RF8 S8 B8 p8 x8))
        go_hide hQ
        obtain ⟨wo,rfl⟩ : ∃ x,x = w5:=⟨_,rfl⟩
        go_loopw [9,64] (fun v9 v64 wi=>∃ (k : Nat) (q : Int) (s2 : ByteArray),v9 = .string s2 ∧ v64 = .int .i64 q ∧ Hid (q = k ∧ k ≤ WL.length) ∧ Hid (s2.data.toList ++ catL (WL.drop k) = F1) ∧ wi = wo) (fun _ v64 _=>WL.length - (intOf v64).toNat)
        case atStart=>exact ⟨0,0,s,rfl,rfl,Lib.hid ⟨rfl,Nat.zero_le _⟩,hsn2,rfl⟩
        case round =>
          obtain ⟨k,q,s2,rfl,rfl,hq,hM,rfl⟩:=hrel
          have hq0 : 0 ≤ q:=by have:=hq.out;omega
          have hs2 : s2.size ≤ 500000:=by have h1:=congrArg List.length hM.out;rw [List.length_append,ba_len] at h1;omega
          by_cases hk : k < WL.length
          · have tk : decide (q < (WL.length : Int)) = true:=decide_eq_true (by have:=hq.out;omega)
            have hq1 : q < (WL.length : Int):=by have:=hq.out;omega
            have hM2:=hM.out
            obtain ⟨x2,hxx⟩ : ∃ s,rdOf ByteArray.empty WL q = s:=⟨_,rfl⟩
            have e0 : WL.drop k = x2 :: WL.drop (k + 1):=by
              rw [List.drop_eq_getElem_cons hk,← hxx,hq.out.1]
              simp [rdOf,List.getD_eq_getElem?_getD,hk]
            rw [e0,catL_cons,← List.append_assoc,← bap] at hM2
            obtain ⟨adt,eAT,zt⟩:=Kd.at_string (Kd.R_reads' RT.out).2.2 q hq0 hq1
            cases eAT
            rw [hxx] at zt
            have hs3 : (s2 ++ x2).size ≤ 500000:=by have h1:=congrArg List.length hM2;rw [List.length_append,ba_len] at h1;omega
            rw [ByteArray.size_append] at hs3
            have big3 : ¬ 9223372036854775807 < s2.size + x2.size:=by omega
            replace hxx:=Lib.hid hxx
            replace e0:=Lib.hid e0
            replace hM2:=Lib.hid hM2
            clear hM
            have eqq : wrap64 (q + 1) = q + 1:=w64 (by omega) (by omega)
            go_wp2
            refine ⟨⟨k + 1,q + 1,s2 ++ x2,rfl,(by first | rfl | exact congrArg (Value.int .i64) eqq),Lib.hid ⟨by have:=hq.out;omega,hk⟩,hM2,(by first | rfl | trivial)⟩,?_⟩
            simp only [intOf];have:=hq.out;omega
          · have tk : decide (q < (WL.length : Int)) = false:=decide_eq_false (by have:=hq.out;omega)
            have hE : s2.data.toList = F1:=by
              have h1:=hM.out
              rw [List.drop_of_length_le (by omega)] at h1
              simpa [catL] using h1
            replace hE:=Lib.hid hE
            subst hQ
            go_wp2
            refine ⟨⟨m + 1,j + 1,n + 1,s2,rfl,(by first | rfl | exact congrArg (Value.int .i64) en1),(by first | rfl | exact congrArg (Value.int .i64) ej),Lib.hid ⟨hj2.out.1,hj2.out.2.1,hj2.out.2.2,by rw [hE.out,hF1.out]⟩,P5,RF5,S5,B5⟩,?_⟩
            simp only [intOf];have:=hj.out;omega
      · have hd2 : (x.f1 == down) = false:=beq_eq_false_iff_ne.2 hd
        rw [if_neg (by rw [hd2];decide),List.append_nil] at hsn
        rw [if_neg (by rw [hd2];decide),Nat.add_zero] at hcn
        have hj2:=Lib.hid (show j + 1 = ((m + 1 : Nat) : Int) ∧ m + 1 ≤ L.length ∧ n = cntN L down (m + 1) ∧ s.data.toList = wantN L down clues (m + 1) from ⟨by have:=hj.out;omega,hlt,by rw [hcn];exact hj.out.2.2.1,by rw [hsn];exact hj.out.2.2.2⟩)
        replace hd:=Lib.hid hd
        replace hc:=Lib.hid hc
        replace hx2:=Lib.hid hx2
        replace hj:=Lib.hid hj.out.1
        clear hsn hcn hlc hwb hC zc RF7 hS7 P7 B7
        go_wp2
        refine ⟨⟨m + 1,j + 1,n,s,rfl,rfl,(by first | rfl | exact congrArg (Value.int .i64) ej),hj2,P8,RF8,S8,B8⟩,?_⟩
        simp only [intOf];have:=hj.out;omega
    · have tlt : decide (j < (L.length : Int)) = false:=decide_eq_false (by have:=hj.out;omega)
      have hmE : m = L.length:=by have:=hj.out;omega
      subst hmE
      obtain ⟨WT,hWT⟩ : ∃ y,wantN L down clues L.length = y:=⟨_,rfl⟩
      obtain ⟨CN,hCN⟩ : ∃ y,cntN L down L.length = y:=⟨_,rfl⟩
      rw [hWT] at hf3 hj hwl
      rw [hCN] at hf2 hj
      have hsW:=Lib.hid hj.out.2.2.2
      have hnC:=Lib.hid hj.out.2.2.1
      have hwb1 : WT.length ≤ 500000:=by have:=hwl.out;have:=hfac.out;omega
      have hsz : s.size ≤ 500000:=by rw [← ba_len,hsW.out];exact hwb1
      have hCN1 : CN ≤ 512:=by rw [← hCN];have:=cnt_le L down L.length;have:=hfac.out;omega
      replace hWT:=Lib.hid hWT
      replace hCN:=Lib.hid hCN
      replace hj:=Lib.hid hj.out.1
      clear hS7 P7 hwl2
      go_wp2
      go_hide hQ
      obtain ⟨wo,rfl⟩ : ∃ x,x = wr:=⟨_,rfl⟩
      go_loopw [10,16,75] (fun v10 v16 v75 wr=>∃ (k : Nat) (q hd : Int) (g : ByteArray),v10 = .string g ∧ v16 = .int .i64 hd ∧ v75 = .int .i64 q ∧ Hid (q = k ∧ k ≤ F.length ∧ 0 ≤ hd ∧ hd + (((F.drop k).filter fun x=>bt x 3 == 46).length : Int) = CN) ∧ Hid (g.data.toList ++ catL ((F.drop k).flatMap fun x=>goFieldsP blk (strip x)) = WT) ∧ Hid (Kd.R Kd.string 9 wr w.heap.size (fun _=>True) (.slice AF F.length cF) F) ∧ Hid (Below w.heap.size w wr)) (fun _ _ v75 _=>F.length - (intOf v75).toNat)
      case atStart=>exact ⟨0,0,0,⟨#[]⟩,rfl,rfl,rfl,Lib.hid ⟨rfl,Nat.zero_le _,Int.le_refl _,by rw [List.drop_zero,hf2.out];omega⟩,Lib.hid (by rw [List.drop_zero,hf3.out];rfl),RF7,B7⟩
      case round =>
        clear RF7 B7
        obtain ⟨k,q,hd,g,rfl,rfl,rfl,hq,hM,RF7,B7⟩:=hrel
        have hq0 : 0 ≤ q:=by have:=hq.out;omega
        have hd0 : 0 ≤ hd:=by have:=hq.out;omega
        have hd1 : hd ≤ 512:=by have:=hq.out;omega
        have hgz : g.size ≤ 500000:=by have h1:=congrArg List.length hM.out;rw [List.length_append,ba_len] at h1;omega
        by_cases hk : k < F.length
        · have tk : decide (q < (F.length : Int)) = true:=decide_eq_true (by have:=hq.out;omega)
          have hq1 : q < (F.length : Int):=by have:=hq.out;omega
          obtain ⟨x,hxx⟩ : ∃ s,rdOf ByteArray.empty F q = s:=⟨_,rfl⟩
          have e0 : F.drop k = x :: F.drop (k + 1):=by
            rw [List.drop_eq_getElem_cons hk,← hxx,hq.out.1]
            simp [rdOf,List.getD_eq_getElem?_getD,hk]
          have hxm : x ∈ F:=by rw [← hxx];exact prd_mem (by have:=hq.out;omega)
          obtain ⟨hx4,hx5,hxu,hxr⟩:=hf1.out x hxm
          have hM2:=hM.out
          have hq2:=hq.out.2.2.2
          rw [e0,List.flatMap_cons,catL_append,← List.append_assoc] at hM2
          rw [e0,List.filter_cons] at hq2
          obtain ⟨adt,eAT,zt⟩:=Kd.at_string (Kd.R_reads' RF7.out).2.2 q hq0 hq1
          cases eAT
          rw [hxx] at zt
          have hcol:=fun w=>columns_any x w (by omega)
          obtain ⟨uc,huc⟩ : ∃ u,ucols x = u:=⟨_,rfl⟩
          simp only [huc] at hcol
          rw [huc] at hxu
          have tuc : decide (width < uc) = false:=decide_eq_false (by omega)
          have hbt : ∀ h : 3 < x.size,((x[3]'h).toNat : Int) = bt x 3:=bt_at x 3
          have hbr:=bt_range x 3
          obtain ⟨b3,hb3⟩ : ∃ b,bt x 3 = b:=⟨_,rfl⟩
          have eqq : wrap64 (q + 1) = q + 1:=w64 (by omega) (by omega)
          have ehd : wrap64 (hd + 1) = hd + 1:=w64 (by omega) (by omega)
          have hWl : (goFieldsP blk (strip x)).length ≤ 5000:=by
            obtain ⟨rs,r1,r2⟩:=hxr
            have r3:=words_count' r1
            rw [← r2] at r3
            have r4 : (strip x).size ≤ 4100:=by
              unfold strip
              split
              · rw [ByteArray.size_append,ByteArray.size_extract,spB_size];omega
              · omega
            omega
          have hstr : strip x = if b3 = 46 then spB 4 ++ x.extract 4 x.size else x:=by unfold strip;rw [hb3]
          rw [hb3] at hq2 hbt hbr
          obtain ⟨y,hy⟩ : ∃ y,strip x = y:=⟨_,rfl⟩
          rw [hy] at hM2 hWl hstr
          have hyz : y.size ≤ 4100:=by
            rw [hstr]
            split
            · rw [ByteArray.size_append,ByteArray.size_extract,spB_size];omega
            · omega
          have hwd:=fun w=>words_calls y w (by omega)
          obtain ⟨WL,hWL⟩ : ∃ l,goFieldsP blk y = l:=⟨_,rfl⟩
          rw [hWL] at hM2 hWl
          simp only [hWL] at hwd
          replace hWL:=Lib.hid hWL
          replace hwd:=Lib.hid hwd
          replace hcol:=Lib.hid hcol
          replace hy:=Lib.hid hy
          replace hb3:=Lib.hid hb3
          replace huc:=Lib.hid huc
          replace hxx:=Lib.hid hxx
          replace e0:=Lib.hid e0
          replace hM2:=Lib.hid hM2
          replace hxr:=Lib.hid hxr
          clear hM hxm
          by_cases h46 : b3 = 46
          · rw [if_pos h46] at hstr
            rw [if_pos (by rw [h46];rfl),List.length_cons] at hq2
            have hq3:=Lib.hid (show q + 1 = ((k + 1 : Nat) : Int) ∧ k + 1 ≤ F.length ∧ 0 ≤ hd + 1 ∧ (hd + 1) + (((F.drop (k + 1)).filter fun x=>bt x 3 == 46).length : Int) = CN from ⟨by have:=hq.out;omega,hk,by omega,by omega⟩)
            have t46 : (b3 == 46) = true:=by rw [h46];rfl
            have hq:=Lib.hid hq.out.1
            have big5 : ¬ 9223372036854775807 < 4 + (x.size - 4):=by omega
            replace hstr:=Lib.hid hstr
            replace h46:=Lib.hid h46
            clear hq2
            go_wp2_with (first
              | (go_at_call 8;go_must (refine (hcol.out _).mono ?_;rintro e wc ⟨rfl,hb⟩;have RFc:=Lib.hid (Kd.R_below RF7.out hb);have Bc:=Lib.hid (below_step B7.out hb);clear hb))
              | (go_at_call 7;go_must (rw [show (⟨#[32,32,32,32]⟩ ++ x.extract 4 x.size : ByteArray) = y from hstr.out.symm];refine (hwd.out _).mono ?_;rintro e w5 ⟨vT,rfl,RT,hb⟩;obtain ⟨AT,cT,rfl⟩:=Kd.R_slice RT;replace RT:=Lib.hid (Kd.R_lower RT Bc.out.size);have RF5:=Lib.hid (Kd.R_below RFc.out hb);have B5:=Lib.hid (below_step Bc.out hb);clear hb)))
            go_hide hQ2
            obtain ⟨wo2,rfl⟩ : ∃ x,x = w5:=⟨_,rfl⟩
            go_loopw [10,99] (fun v10 v99 wi=>∃ (k2 : Nat) (q2 : Int) (s2 : ByteArray),v10 = .string s2 ∧ v99 = .int .i64 q2 ∧ Hid (q2 = k2 ∧ k2 ≤ WL.length) ∧ Hid (s2.data.toList ++ catL (WL.drop k2) ++ catL ((F.drop (k + 1)).flatMap fun x=>goFieldsP blk (strip x)) = WT) ∧ wi = wo2) (fun _ v99 _=>WL.length - (intOf v99).toNat)
            case atStart=>exact ⟨0,0,g,rfl,rfl,Lib.hid ⟨rfl,Nat.zero_le _⟩,hM2,rfl⟩
            case round =>
              obtain ⟨k2,q2,s2,rfl,rfl,hqq,hN,rfl⟩:=hrel
              have hqq0 : 0 ≤ q2:=by have:=hqq.out;omega
              have hs2 : s2.size ≤ 500000:=by have h1:=congrArg List.length hN.out;rw [List.length_append,List.length_append,ba_len] at h1;omega
              by_cases hk2 : k2 < WL.length
              · have tk2 : decide (q2 < (WL.length : Int)) = true:=decide_eq_true (by have:=hqq.out;omega)
                have hqq1 : q2 < (WL.length : Int):=by have:=hqq.out;omega
                have hN2:=hN.out
                obtain ⟨x2,hxx2⟩ : ∃ s,rdOf ByteArray.empty WL q2 = s:=⟨_,rfl⟩
                have e1 : WL.drop k2 = x2 :: WL.drop (k2 + 1):=by
                  rw [List.drop_eq_getElem_cons hk2,← hxx2,hqq.out.1]
                  simp [rdOf,List.getD_eq_getElem?_getD,hk2]
                rw [e1,catL_cons,← List.append_assoc,← bap] at hN2
                obtain ⟨adt2,eAT2,zt2⟩:=Kd.at_string (Kd.R_reads' RT.out).2.2 q2 hqq0 hqq1
                cases eAT2
                rw [hxx2] at zt2
                have hs3 : (s2 ++ x2).size ≤ 500000:=by have h1:=congrArg List.length hN2;rw [List.length_append,List.length_append,ba_len] at h1;omega
                rw [ByteArray.size_append] at hs3
                have big3 : ¬ 9223372036854775807 < s2.size + x2.size:=by omega
                replace hxx2:=Lib.hid hxx2
                replace e1:=Lib.hid e1
                replace hN2:=Lib.hid hN2
                clear hN
                have eqq2 : wrap64 (q2 + 1) = q2 + 1:=w64 (by omega) (by omega)
                go_wp2
                refine ⟨⟨k2 + 1,q2 + 1,s2 ++ x2,rfl,(by first | rfl | exact congrArg (Value.int .i64) eqq2),Lib.hid ⟨by have:=hqq.out;omega,hk2⟩,hN2,(by first | rfl | trivial)⟩,?_⟩
                simp only [intOf];have:=hqq.out;omega
              · have tk2 : decide (q2 < (WL.length : Int)) = false:=decide_eq_false (by have:=hqq.out;omega)
                have hE:=hN.out
                rw [List.drop_of_length_le (by omega)] at hE
                have hE2 : s2.data.toList ++ catL ((F.drop (k + 1)).flatMap fun x=>goFieldsP blk (strip x)) = WT:=by simpa [catL] using hE
                replace hE2:=Lib.hid hE2
                clear hE hN
                subst hQ2
                go_wp2
                refine ⟨⟨k + 1,q + 1,hd + 1,s2,rfl,(by first | rfl | exact congrArg (Value.int .i64) ehd),(by first | rfl | exact congrArg (Value.int .i64) eqq),hq3,hE2,RF5,B5⟩,?_⟩
                simp only [intOf];have:=hq.out;omega
          · rw [if_neg h46] at hstr
            rw [if_neg (by simpa using h46)] at hq2
            have hq3:=Lib.hid (show q + 1 = ((k + 1 : Nat) : Int) ∧ k + 1 ≤ F.length ∧ 0 ≤ hd ∧ hd + (((F.drop (k + 1)).filter fun x=>bt x 3 == 46).length : Int) = CN from ⟨by have:=hq.out;omega,hk,by omega,hq2⟩)
            have t46 : (b3 == 46) = false:=by simpa using h46
            have hq:=Lib.hid hq.out.1
            replace hstr:=Lib.hid hstr
            clear hq2 h46
            go_wp2_with (first
              | (go_at_call 8;go_must (refine (hcol.out _).mono ?_;rintro e wc ⟨rfl,hb⟩;have RFc:=Lib.hid (Kd.R_below RF7.out hb);have Bc:=Lib.hid (below_step B7.out hb);clear hb))
              | (go_at_call 7;go_must (rw [show x = y from hstr.out.symm];refine (hwd.out _).mono ?_;rintro e w5 ⟨vT,rfl,RT,hb⟩;obtain ⟨AT,cT,rfl⟩:=Kd.R_slice RT;replace RT:=Lib.hid (Kd.R_lower RT Bc.out.size);have RF5:=Lib.hid (Kd.R_below RFc.out hb);have B5:=Lib.hid (below_step Bc.out hb);clear hb)))
            go_hide hQ2
            obtain ⟨wo2,rfl⟩ : ∃ x,x = w5:=⟨_,rfl⟩
            go_loopw [10,99] (fun v10 v99 wi=>∃ (k2 : Nat) (q2 : Int) (s2 : ByteArray),v10 = .string s2 ∧ v99 = .int .i64 q2 ∧ Hid (q2 = k2 ∧ k2 ≤ WL.length) ∧ Hid (s2.data.toList ++ catL (WL.drop k2) ++ catL ((F.drop (k + 1)).flatMap fun x=>goFieldsP blk (strip x)) = WT) ∧ wi = wo2) (fun _ v99 _=>WL.length - (intOf v99).toNat)
            case atStart=>exact ⟨0,0,g,rfl,rfl,Lib.hid ⟨rfl,Nat.zero_le _⟩,hM2,rfl⟩
            case round =>
              obtain ⟨k2,q2,s2,rfl,rfl,hqq,hN,rfl⟩:=hrel
              have hqq0 : 0 ≤ q2:=by have:=hqq.out;omega
              have hs2 : s2.size ≤ 500000:=by have h1:=congrArg List.length hN.out;rw [List.length_append,List.length_append,ba_len] at h1;omega
              by_cases hk2 : k2 < WL.length
              · have tk2 : decide (q2 < (WL.length : Int)) = true:=decide_eq_true (by have:=hqq.out;omega)
                have hqq1 : q2 < (WL.length : Int):=by have:=hqq.out;omega
                have hN2:=hN.out
                obtain ⟨x2,hxx2⟩ : ∃ s,rdOf ByteArray.empty WL q2 = s:=⟨_,rfl⟩
                have e1 : WL.drop k2 = x2 :: WL.drop (k2 + 1):=by
                  rw [List.drop_eq_getElem_cons hk2,← hxx2,hqq.out.1]
                  simp [rdOf,List.getD_eq_getElem?_getD,hk2]
                rw [e1,catL_cons,← List.append_assoc,← bap] at hN2
                obtain ⟨adt2,eAT2,zt2⟩:=Kd.at_string (Kd.R_reads' RT.out).2.2 q2 hqq0 hqq1
                cases eAT2
                rw [hxx2] at zt2
                have hs3 : (s2 ++ x2).size ≤ 500000:=by have h1:=congrArg List.length hN2;rw [List.length_append,List.length_append,ba_len] at h1;omega
                rw [ByteArray.size_append] at hs3
                have big3 : ¬ 9223372036854775807 < s2.size + x2.size:=by omega
                replace hxx2:=Lib.hid hxx2
                replace e1:=Lib.hid e1
                replace hN2:=Lib.hid hN2
                clear hN
                have eqq2 : wrap64 (q2 + 1) = q2 + 1:=w64 (by omega) (by omega)
                go_wp2
                refine ⟨⟨k2 + 1,q2 + 1,s2 ++ x2,rfl,(by first | rfl | exact congrArg (Value.int .i64) eqq2),Lib.hid ⟨by have:=hqq.out;omega,hk2⟩,hN2,(by first | rfl | trivial)⟩,?_⟩
                simp only [intOf];have:=hqq.out;omega
              · have tk2 : decide (q2 < (WL.length : Int)) = false:=decide_eq_false (by have:=hqq.out;omega)
                have hE:=hN.out
                rw [List.drop_of_length_le (by omega)] at hE
                have hE2 : s2.data.toList ++ catL ((F.drop (k + 1)).flatMap fun x=>goFieldsP blk (strip x)) = WT:=by simpa [catL] using hE
                replace hE2:=Lib.hid hE2
                clear hE hN
                subst hQ2
                go_wp2
                refine ⟨⟨k + 1,q + 1,hd,s2,rfl,(by first | rfl | exact congrArg (Value.int .i64) ehd),(by first | rfl | exact congrArg (Value.int .i64) eqq),hq3,hE2,RF5,B5⟩,?_⟩
                simp only [intOf];have:=hq.out;omega
        · have tk : decide (q < (F.length : Int)) = false:=decide_eq_false (by have:=hq.out;omega)
          have hE : g.data.toList = WT:=by
            have h1:=hM.out
            rw [List.drop_of_length_le (by omega)] at h1
            simpa [catL] using h1
          have hdE : hd = n:=by
            have h1:=hq.out.2.2.2
            rw [List.drop_of_length_le (by omega)] at h1
            have h2:=hnC.out
            rw [h2]
            simpa using h1
          have hgs : g = s:=by
            have h1:=hsW.out
            rw [← hE] at h1
            have h2:=ba_data g
            have h3:=ba_data s
            rw [← h2,← h3,h1]
          subst hdE
          subst hgs
          subst hQ
          go_wp2
          go_ret
          exact ⟨rfl,B7.out⟩
theorem PageClues.calls {title : ByteArray} {H W : Int} {A2 : Option Addr} {c2 : Nat} {bl : List Bool} {A3 : Option Addr} {c3 : Nat} {ri : List Bool} {A4 : Option Addr} {c4 : Nat} {be : List Bool} {A5 : Option Addr} {c5 : Nat} {cells : List ByteArray} {A6 : Option Addr} {c6 : Nat} {clues : List ByteArray} {w : World} (hT : Tabs w) (hP : PuzR A2 c2 bl A3 c3 ri A4 c4 be A5 c5 cells A6 c6 clues w) (hz : PuzS title cells clues) (down : Bool) (width : Int) :
    Calls Tryd.prog 3 #[.agg #[.string title,.int .i64 H,.int .i64 W,.slice A2 bl.length c2,.slice A3 ri.length c3,.slice A4 be.length c4,.slice A5 cells.length c5,.slice A6 clues.length c6],.bool down,.int .i64 width] w fun e w'=>e = .returned (.bool true) ∧ Below w.heap.size w w':=by
  by_cases hp : pcheck title H W bl ri be cells clues = 0
  · by_cases hw : 10 ≤ width ∧ width ≤ 120
    · exact PageClues.calls1 hT hP hz hp down hw.1 hw.2
    · exact PageClues.calls0 hT hP hz down width 200 (by decide) (fun w2 t2 p2=>clues_wide t2 p2 hz hp down width (by omega))
  · exact PageClues.calls0 hT hP hz down width _ hp (fun w2 t2 p2=>clues_bad t2 p2 hz rfl hp down width)
end Go.Proofs.YtpfbcepgmigeiaaDoor.Q
end
section
namespace Go.Proofs.YtpfbcepgmigeiaaDoor.cl
open Go.ChangeShapes Go.WideShapes Go.ChangeAt Go.RowKit Go.Joins
open Go.Proofs.YtpfbcepgmigeiaaDoor.Q Go.Proofs.YtpfbcepgmigeiaaDoorS
set_option maxRecDepth 100000
def wArgs : Array Value:=#[.agg #[.string ⟨#[]⟩,.int .i64 0,.int .i64 0,.slice none 0 0,.slice none 0 0,.slice none 0 0,.slice none 0 0,.slice none 0 0],.bool false,.int .i64 0]
def wData {H : Type} : List (DataW H):=[.agg [.lit (.string []),.agg [.lit (.int .i64 0),.lit (.int .i64 0),.nil,.nil,.nil],.nil,.nil],.lit (.bool false),.lit (.int .i64 0)]
theorem laid_met (os : Os) : laidMet Tryd.prog Rows.pageCluesUptoRow.laid ((laidWorld os).forCall (fun _ _=>0) ⟨#[],wArgs,[]⟩).memory :=
  laidMet_of_run' 8 (by kernel_rfl) (by kernel_rfl)
theorem reads (os : Os) {H : Type} (enc : TypeId × Value → H) : ∃ places,DataW.whole enc Tryd.prog ((laidWorld os).forCall (fun _ _=>0) ⟨#[],wArgs,[]⟩).memory Tryd.f3.params.toList Rows.pageCluesSpec.vars false wArgs.toList 8 = some (wData,[],places) :=
  ⟨[],by kernel_rfl⟩
theorem contract (H : Type) (enc : TypeId × Value → H) (W : World) (base : Nat) (args : Array Value) (ds gs : List (DataW H)) (before : List MemPlace)
    (hval : ∀ (j : Nat) t v,Tryd.f3.params[j]? = some t → args[j]? = some v → Value.okWide Tryd.prog W .any base t v)
    (hW : DataW.Whole enc Tryd.prog Tryd.f3.params.toList Rows.pageCluesSpec.vars false W args.toList ds gs before) (hL : laidMetH Tryd.prog Rows.pageCluesUptoRow.laid W) (hSh : W.ShapedOpen Tryd.prog) (hk : Rows.uptoSmall H (ds ++ gs) = true) :
    Calls Tryd.prog 3 args W fun e W'=>∃ v,e = .returned v ∧ Rows.pageCluesSpec.post enc Tryd.prog Tryd.f3 false true false false W args v W':=by
  have hW':=hW
  obtain ⟨p,q,hA0,hV,rfl,hfz,hnd⟩:=hW
  have hA : DataW.TrodAll enc Tryd.prog W 0 (fun _=>true) true Tryd.f3.params.toList args.toList ds p:=hA0
  rw [Tryd.params3] at hA hval
  obtain ⟨v0,v1,v2,d0,d1,d2,p0,p1,p2,rfl,rfl,rfl,h0,h1,h2⟩:=trodAll_three hA
  obtain ⟨rfl,rfl⟩:=trodVars_none hV
  simp only [List.append_nil] at hk
  have hb:=bulk_bound hk
  simp only [Rows.uptoBulkAll] at hb
  obtain ⟨title,Hh,Ww,A2,c2,bl,A3,c3,ri,A4,c4,be,A5,c5,cells,A6,c6,clues,rfl,hP,hz⟩:=open_puzzle (hval 0 27 v0 rfl rfl) h0
  obtain ⟨bb,rfl,rfl,rfl⟩:=Go.RowKit.open_bool Tryd.underlying4 (hval 1 4 v1 rfl rfl) h1
  obtain ⟨nn,rfl,rfl,rfl,hnn⟩:=Go.ChangeShapes.open_int Tryd.underlying3 (hval 2 3 v2 rfl rfl) h2
  refine (PageClues.calls (tabs_of_laid hL hSh) hP (hz (by omega)).1 bb nn).mono fun e W' ⟨he,hbel⟩=>?_
  subst he
  have hlt : ∀ x ∈ p0 ++ ([] ++ ([])),x.block < W.heap.size:=fun x hx=>hW'.lt x (by simpa using hx)
  refine ⟨_,rfl,post_of_below (pa:=p0 ++ ([] ++ ([]))) (pv:=[]) hW' (fun _ _ _=>trodAll_mk1 (shut_bool Tryd.underlying4 true)) (fun sp hsp=>?_) (fun _ _=>rfl) (by simp) hbel (ok_one (by kernel_rfl) rfl (okWide_bool_mk Tryd.underlying4 _))⟩
  have stay : ∀ {t : TypeId} {v : Value} {d : DataW H} {ps : List MemPlace},Tryd.prog.readableRec t = true → t < Tryd.prog.types.size → DataW.Trod enc Tryd.prog W 0 (fun _=>true) true t v d ps → (∀ x ∈ ps,x ∈ p0 ++ ([] ++ ([]))) → DataW.Trod enc Tryd.prog W' 0 sp true t v d ps:=fun hr hrow h hin =>
    WideElems.Trod_stays laid_out hr hrow h (fun x hx=>hbel.same (hlt x (hin x hx))) (fun x hx=>hsp x (by simpa using hin x hx))
  exact trodAll_mk3 (stay (by kernel_rfl) (of_decide_eq_true (by kernel_rfl)) h0 (fun x hx=>List.mem_append_left _ hx)) (shut_bool Tryd.underlying4 _) (Go.ChangeShapes.shut_int Tryd.underlying3 hnn)
theorem liftedUpto (os : Os) (started : os.Started) (H : Type) (enc : TypeId × Value → H) (F : Stop.Interp) :
    ReturnsInHanded {} Tryd.checked os 3 .any ((Rows.OpenSpec.upto Rows.pageCluesSpec).preRow enc Tryd.prog Tryd.f3 Rows.pageCluesUptoRow.domain false Rows.pageCluesUptoRow.laid) (((Rows.OpenSpec.upto Rows.pageCluesSpec).at F).post enc Tryd.prog Tryd.f3 false true false false):=by
  obtain ⟨places,hx⟩:=reads os enc
  refine returnsInHanded_of_row (C:=Tryd.checked) (s:=Rows.OpenSpec.upto Rows.pageCluesSpec) own_knob started (by kernel_rfl) Tryd.func3
    (witness_row_atRef (enc:=enc) (C:=Tryd.checked) false (laidWorld os) wArgs rfl (by kernel_rfl) (by kernel_rfl) (by kernel_rfl)
      (OpenSpec.preRow_of_cond 8 hx (by kernel_rfl) (fun k hk=>by cases hk;kernel_rfl) (by kernel_rfl) (laid_met os))) ?_
  intro W base args ds gs before hval hW _ hcond _ hL hSh _
  exact contract H enc W base args ds gs before hval hW hL hSh (hcond _ rfl)
theorem saidUpto : Rows.PageCluesUptoSaid :=
  OpenClaim.holds_of_cond 3 Tryd.f3 rfl rfl rfl rfl rfl rfl rfl ⟨rfl,rfl,rfl,rfl,rfl⟩ rfl rfl rfl rfl rfl (by kernel_rfl) Tryd.func3 (by kernel_rfl)
    (of_decide_eq_true (by kernel_rfl)) (by unfold Func.isWrapper;first | (rw [if_pos (by decide +kernel)];kernel_rfl) | (rw [if_neg (by decide +kernel)];exact ⟨rfl,rfl⟩))
    (fun os started H enc _ F=>by rw [OpenClaim.pre_eq_preRow];exact liftedUpto os started H enc F)
theorem plain (f : FuncId) (fn : Func) (hf : Tryd.pinned.checked.prog.funcNamed "rebus/rebuslaw21.PageClues" = some f) (hfn : Tryd.pinned.checked.prog.funcs[f]? = some fn) :
    false = Tryd.pinned.checked.prog.looks [] ∧ ∀ (j : Nat) t,fn.params[j]? = some t → Tryd.pinned.checked.prog.wantsStandIn t = false:=by
  obtain rfl : f = 3:=Option.some.inj ((show Tryd.prog.funcNamed "rebus/rebuslaw21.PageClues" = some 3 by kernel_rfl).symm.trans hf) |>.symm
  obtain rfl : fn = Tryd.f3:=(Option.some.inj (Tryd.func3.symm.trans hfn)).symm
  refine ⟨by kernel_rfl,fun j t ht=>?_⟩
  rw [Tryd.params3] at ht
  have hm : t ∈ #[27,4,3]:=Array.mem_of_getElem? ht
  simp only [List.mem_toArray,List.mem_cons,List.not_mem_nil,or_false] at hm
  rcases hm with rfl | rfl | rfl
  · exact (show Tryd.prog.wantsStandIn 27 = false by kernel_rfl)
  · exact (show Tryd.prog.wantsStandIn 4 = false by kernel_rfl)
  · exact (show Tryd.prog.wantsStandIn 3 = false by kernel_rfl)
theorem cardUpto : Rows.PageCluesUptoCardSaid :=
  Claim7.holds_tied_plain_at .later [] _ _ _ _ saidUpto (fun _ h=>by cases h) (by kernel_rfl) (fun _ h=>by cases h) pageCluesUpto_row_tie rfl ⟨rfl,rfl⟩ (by kernel_rfl) rfl plain (by kernel_rfl)
end Go.Proofs.YtpfbcepgmigeiaaDoor.cl
end
#print axioms Go.Proofs.YtpfbcepgmigeiaaDoor.cl.cardUpto
