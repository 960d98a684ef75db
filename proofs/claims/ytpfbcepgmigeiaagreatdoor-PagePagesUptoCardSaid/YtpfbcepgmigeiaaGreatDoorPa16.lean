/- PART 16 OF A PROOF: Lean functions, and that the program computes them; written by hand and by a program. Not trusted: Lean checks it. -/
import Derived.Lib.QuoteLoop
import Derived.Test.YtpfbcepgmigeiaaGreatDoorPa14
import Derived.Test.YtpfbcepgmigeiaaGreatDoorPa15
set_option linter.unusedVariables false
set_option linter.unusedSimpArgs false
section
namespace Go.Proofs.YtpfbcepgmigeiaaGreatDoor.Q
open Go.RowKit Go.Shelf Go.Lib Go.Proofs.YtpfbcepgmigeiaaGreatDoorW.PrintWords Go.Proofs.YtpfbcepgmigeiaaGreatDoorW.PrintLast Go.Proofs.YtpfbcepgmigeiaaGreatDoorS
set_option linter.unusedVariables false
set_option linter.unusedSimpArgs false
theorem wpieces_more {width : Int} {f : Nat} {w : ByteArray} {left : Int} {ps : List ByteArray} {r : ByteArray} (hl : width < left) (h : wpieces width f w left = some (ps,r)) : ∃ f' ps2,ps = wpiece w width :: ps2 ∧ wpieces width f' (w.extract (wpiece w width).size w.size) (left - ucols (wpiece w width)) = some (ps2,r):=by
  cases f with
  | zero=>unfold wpieces at h;rw [if_pos hl] at h;cases h
  | succ f =>
    unfold wpieces at h
    rw [if_pos hl] at h
    cases hr : wpieces width f (w.extract (wpiece w width).size w.size) (left - ucols (wpiece w width)) with
    | none=>rw [hr] at h;cases h
    | some x =>
      obtain ⟨a,b⟩:=x
      rw [hr] at h
      cases h
      exact ⟨f,a,rfl,hr⟩
theorem wpieces_done {width : Int} {f : Nat} {w : ByteArray} {left : Int} {ps : List ByteArray} {r : ByteArray} (hl : ¬ width < left) (h : wpieces width f w left = some (ps,r)) : ps = [] ∧ r = w:=by
  cases f with
  | zero=>unfold wpieces at h;rw [if_neg hl] at h;cases h;exact ⟨rfl,rfl⟩
  | succ f=>unfold wpieces at h;rw [if_neg hl] at h;cases h;exact ⟨rfl,rfl⟩
theorem wstep_go {width : Int} {w : ByteArray} {ws l l2 : List ByteArray} {op o2 : Bool} {F : List ByteArray} (h : wgo width (w :: ws) l op = some F) (hs : wstep width l op w = some (l2,o2)) : wgo width ws l2 o2 = some F:=by
  unfold wgo at h
  rw [hs] at h
  exact h
theorem rdOf_last {l : List ByteArray} (h : l ≠ []) : rdOf ByteArray.empty l ((l.length : Int) - 1) = wlast l:=by
  unfold rdOf wlast
  have:=List.length_pos_iff.2 h
  rw [show ((l.length : Int) - 1).toNat = l.length - 1 by omega]
  rfl
theorem nonempty_list {s : ByteArray} (h : s ≠ ⟨#[]⟩) : s.toList.isEmpty = false:=by
  rw [Lib.toList_data]
  cases hd : s.data.toList with
  | nil=>exact absurd (ByteArray.ext (Array.toList_inj.1 hd)) h
  | cons a l=>rfl
theorem wlast_eb {L : List (List Nat)} (h : L ≠ []) : ∃ x,x ∈ L ∧ wlast (L.map eb) = eb x:=by
  obtain ⟨M,x,rfl⟩ : ∃ M x,L = M ++ [x]:=⟨L.dropLast,L.getLast h,(List.dropLast_concat_getLast h).symm⟩
  exact ⟨x,by simp,by unfold wlast;simp [List.getD_eq_getElem?_getD]⟩
set_option maxHeartbeats 8000000 in
set_option maxRecDepth 1000000 in
theorem wrap_calls {rs : List Nat} (hv : vr rs) (hz : (en rs).length ≤ 960) {width : Int} (h5 : 5 ≤ width) (h120 : width ≤ 120) (w : World) :
    Calls Tryz.prog 17 #[.string (eb rs),.int .i64 width] w fun e w'=>∃ v,e = .returned (.tuple #[v,.int .i64 0]) ∧ Kd.R Kd.string 9 w' w.heap.size (fun _=>True) v (wwL (eb rs) width) ∧ Below w.heap.size w w':=by
  obtain ⟨B,hB1,hB2,hB3⟩:=fields_en hv
  obtain ⟨FL,i1,-,-,-⟩:=wgo_en h5 B [] false hB3 (fun x hx=>by cases hx) (fun h=>by cases h)
  have hF : wwL (eb rs) width = FL.map eb:=by unfold wwL wwrap;rw [hB1,show ([] : List ByteArray) = ([] : List (List Nat)).map eb from rfl,i1];rfl
  rw [hF]
  clear hF
  have hsz : (eb rs).size ≤ 960:=by rw [eb_size];exact hz
  have hBl : (en B.flatten).length ≤ 960:=by rw [hB2];exact Nat.le_trans (nb_length rs) hz
  have hwd:=fun w=>words_calls (eb rs) w (by omega)
  rw [hB1] at hwd
  obtain ⟨S,hS⟩ : ∃ S,eb rs = S:=⟨_,rfl⟩
  simp only [hS] at hwd hsz ⊢
  obtain ⟨FB,hFB⟩ : ∃ FB,FL.map eb = FB:=⟨_,rfl⟩
  rw [hFB] at i1 ⊢
  have hBlen : B.length ≤ 960:=by
    have h1 : ∀ (l : List (List Nat)),(∀ x ∈ l,okW x) → l.length ≤ (en l.flatten).length:=by
      intro l
      induction l with
      | nil=>intro _;exact Nat.zero_le _
      | cons x l ih =>
        intro h
        have h2:=ih (fun y hy=>h y (List.mem_cons_of_mem _ hy))
        have h3:=List.length_pos_iff.2 (h x (List.mem_cons_self ..)).1
        have h4:=en_length x
        rw [List.flatten_cons,en_append,List.length_append,List.length_cons]
        omega
    have:=h1 B hB3
    omega
  clear hS hFB hB1 hB2 hv hz
  replace hwd:=Lib.hid hwd
  replace i1:=Lib.hid i1
  replace hB3:=Lib.hid hB3
  replace hBl:=Lib.hid hBl
  have hBm : (B.map eb).length = B.length:=List.length_map ..
  replace hBm:=Lib.hid hBm
  go_enter Tryz.func17,Tryz.ntmps17
  go_wp2_with (go_at_call 48;go_must (refine (hwd.out _).mono ?_;rintro e w3 ⟨vW,rfl,RW,hb3⟩;obtain ⟨AW,cW,rfl⟩:=Kd.R_slice RW;rw [hBm.out] at RW ⊢;replace RW:=Lib.hid RW;have hB30:=Lib.hid hb3;clear hb3))
  go_loopw [6,7,25] (fun v6 v7 v25 wr=>∃ (i : Nat) (q : Int) (L : List (List Nat)) (op : Bool),v7 = .bool op ∧ v25 = .int .i64 q ∧ Hid (q = i ∧ i ≤ B.length) ∧ Hid (wgo width ((B.drop i).map eb) (L.map eb) op = some FB) ∧ Hid ((∀ x ∈ L,vr x ∧ nsum x ≤ width) ∧ (op = true → L ≠ []) ∧ wm L + 3 * (en (B.drop i).flatten).length ≤ 3000) ∧ Hid (Kd.R Kd.string 9 wr w3.heap.size (fun _=>True) v6 (L.map eb)) ∧ Hid (Below w3.heap.size w3 wr)) (fun _ _ v25 _=>B.length - (intOf v25).toNat)
  case atStart=>exact ⟨0,0,[],false,rfl,rfl,Lib.hid ⟨rfl,Nat.zero_le _⟩,i1,Lib.hid ⟨(fun x hx=>by cases hx),(fun h=>by cases h),by have:=hBl.out;rw [List.drop_zero];simp only [wm];omega⟩,Lib.hid (Kd.R_nil _ _ _ _ _),Lib.hid (Below.refl _ _)⟩
  case round =>
    obtain ⟨i,q,L,op,rfl,rfl,hq,hgo,hL,RL,hB⟩:=hrel
    by_cases hlt : i < B.length
    rotate_left
    · have hge : ¬ q < (B.length : Int):=by have:=hq.out;omega
      have hgo2:=hgo.out
      rw [List.drop_of_length_le (by omega)] at hgo2
      have hE:=Lib.hid (show L.map eb = FB from Option.some.inj hgo2)
      clear hgo2
      go_wp2
      go_ret2
      refine ⟨_,rfl,?_,below_step hB30.out hB.out⟩
      rw [← hE.out]
      exact Kd.R_lower RL.out hB30.out.size
    · obtain ⟨bW,hbW⟩ : ∃ b,B[i] = b:=⟨_,rfl⟩
      have hbk : okW bW:=hB3.out _ (by rw [← hbW];exact List.getElem_mem hlt)
      have hdr : B.drop i = bW :: B.drop (i + 1):=by rw [List.drop_eq_getElem_cons hlt,hbW]
      have hq0 : 0 ≤ q:=by have:=hq.out;omega
      have hq1 : q < (B.length : Int):=by have:=hq.out;omega
      obtain ⟨ad,eA,zr⟩:=Kd.at_string (Kd.R_reads' (Kd.R_below RW.out hB.out)).2.2 q hq0 (by rw [hBm.out];exact hq1)
      cases eA
      have er : rdOf ByteArray.empty (B.map eb) q = eb bW:=by
        unfold rdOf
        rw [List.getD_eq_getElem?_getD,show q.toNat = i by have:=hq.out;omega,List.getElem?_map,List.getElem?_eq_getElem hlt,hbW]
        rfl
      rw [er] at zr
      have hgo2:=hgo.out
      have hL2:=hL.out
      rw [hdr] at hgo2 hL2
      rw [List.flatten_cons,en_append,List.length_append] at hL2
      obtain ⟨L2,o2,s1,s2,s3,-,s5⟩:=wstep_en h5 hL2.1 hL2.2.1 hbk
      have hgo3:=Lib.hid (wstep_go hgo2 s1)
      have hL3:=Lib.hid (show (∀ x ∈ L2,vr x ∧ nsum x ≤ width) ∧ (o2 = true → L2 ≠ []) ∧ wm L2 + 3 * (en (B.drop (i + 1)).flatten).length ≤ 3000 from ⟨s2,s3,by have:=hL2.2.2;omega⟩)
      have hw2 : wm L2 ≤ 3000:=by have:=hL3.out;omega
      have hbx:=Lib.hid (show ucols (eb bW) = nsum bW ∧ vr bW ∧ (en bW).length ≤ 3000 from ⟨ucols_en hbk.2.1,hbk.2.1,by have:=hL2.2.2;omega⟩)
      have hLl : L.length ≤ 3000:=by have h1:=wm_length L;have:=hL2.2.2;omega
      have hbz : (eb bW).size ≤ 1000:=by rw [eb_size];have:=hL2.2.2;omega
      obtain ⟨wb,hwb⟩ : ∃ x,eb bW = x:=⟨_,rfl⟩
      rw [hwb] at s1 zr hbz hbx
      have hub:=ucols_bound wb
      have hcol:=fun w=>columns_any wb w (by omega)
      obtain ⟨cb,hcb⟩ : ∃ x,ucols wb = x:=⟨_,rfl⟩
      simp only [hcb] at hcol
      rw [hcb] at hub hbx
      have hcb0 : 0 ≤ cb:=hub.1
      have hcb1 : cb ≤ 6000:=by omega
      have s1b:=s1
      obtain ⟨A6,c6,rfl⟩:=Kd.R_slice RL.out
      have ewi : wrap64 (q + 1) = q + 1:=w64 (by omega) (by omega)
      have tlt : decide (q < (B.length : Int)) = true:=decide_eq_true hq1
      have hln : (L.map eb).length = L.length:=List.length_map ..
      rw [hln] at RL ⊢
      have ewl : wrap64 ((L.length : Int) - 1) = (L.length : Int) - 1:=w64 (by omega) (by omega)
      have hLk:=Lib.hid hL2
      clear hub hL2 hgo2 hdr er hgo hL s1 s2 s3 s5 hbk hbW
      replace hwb:=Lib.hid hwb
      replace hcol:=Lib.hid hcol
      cases op with
      | false =>
        unfold wstep at s1b
        rw [if_neg (fun h=>by cases h.1)] at s1b
        cases hps0 : wpieces width wb.size wb (ucols wb) with
        | none=>rw [hps0] at s1b;cases s1b
        | some pr =>
          obtain ⟨ps,r⟩:=pr
          rw [hps0] at s1b
          rw [hcb] at hps0
          replace s1b : (if r.size = 0 then some (L.map eb ++ ps,false) else some (L.map eb ++ ps ++ [r],true)) = some (L2.map eb,o2):=s1b
          have hps:=Lib.hid hps0
          clear hps0
          have hTl:=Lib.hid (show (L.map eb ++ ps).length ≤ 6000 by
            have h1:=wm_length L2
            by_cases hr0 : r.size = 0
            · rw [if_pos hr0] at s1b
              have:=congrArg List.length (Prod.mk.inj (Option.some.inj s1b)).1
              simp only [List.length_map,List.length_append] at this ⊢
              omega
            · rw [if_neg hr0] at s1b
              have:=congrArg List.length (Prod.mk.inj (Option.some.inj s1b)).1
              simp only [List.length_map,List.length_append,List.length_singleton] at this ⊢
              omega)
          replace s1b:=Lib.hid s1b
          replace hcb:=Lib.hid hcb
          go_wp2_with (go_at_call 49;go_must (refine (hcol.out _).mono ?_;rintro e wa ⟨rfl,hb⟩;have RLb:=Lib.hid (Kd.R_below RL.out hb);have Bb:=Lib.hid (below_step hB.out hb);clear hb RL))
          go_hide hQ
          obtain ⟨wo,rfl⟩ : ∃ x,x = wr:=⟨_,rfl⟩
          go_loopw [6,9,11] (fun v6 v9 v11 wi=>∃ (f : Nat) (M PS : List ByteArray) (x : List Nat) (left : Int),v9 = .string (eb x) ∧ v11 = .int .i64 left ∧ Hid (left = nsum x ∧ vr x ∧ (en x).length ≤ 3000) ∧ Hid (wpieces width f (eb x) left = some (PS,r)) ∧ Hid (M ++ PS = L.map eb ++ ps) ∧ Hid (Kd.R Kd.string 9 wi w3.heap.size (fun _=>True) v6 M) ∧ Hid (Below w3.heap.size w3 wi)) (fun _ _ v11 _=>(intOf v11).toNat)
          case atStart=>exact ⟨wb.size,L.map eb,ps,bW,cb,by rw [hwb.out],rfl,hbx,by rw [hwb.out];exact hps,Lib.hid rfl,by first | exact RL | exact RLb,by first | exact hB | exact Bb⟩
          case round =>
            obtain ⟨f,M,PS,x,left,rfl,rfl,hlx,hwp,hMP,RM,hBi⟩:=hrel
            have hxz : (eb x).size ≤ 3000:=by rw [eb_size];exact hlx.out.2.2
            have hlb:=nsum_pos x
            have hxl:=en_length x
            have hl0 : 0 ≤ left:=by have:=hlx.out;omega
            have hl1 : left ≤ 6000:=by have:=hlx.out;omega
            obtain ⟨A7,c7,rfl⟩:=Kd.R_slice RM.out
            have hMl : M.length ≤ 6000:=by
              have h1:=congrArg List.length hMP.out
              have h2:=hTl.out
              rw [List.length_append] at h1
              omega
            by_cases hlw : width < left
            · obtain ⟨f',PS2,hPS,hrec⟩:=wpieces_more hlw hwp.out
              obtain ⟨a,c,hac,e1,ha1,-,-,hcut⟩:=wpiece_en (rs:=x) hlx.out.2.1 h5 (by have:=hlx.out;omega)
              have hva : vr a ∧ vr c:=by have h:=hlx.out.2.1;rw [hac] at h;exact vr_append h
              have hcn : nsum x = nsum a + nsum c:=by rw [hac,nsum_append]
              have hca:=ucols_en hva.1
              have hcs : (en x).length = (en a).length + (en c).length:=by rw [hac,en_append,List.length_append]
              have hpc:=fun w=>piece_calls (s:=eb x) (width:=width) (by omega) h120 w
              have haz : (eb a).size ≤ (eb x).size:=by rw [eb_size,eb_size];omega
              have hcol2:=fun w=>columns_any (eb a) w (by omega)
              rw [e1] at hPS hrec
              rw [hcut] at hrec
              simp only [e1] at hpc
              simp only [hca] at hcol2
              rw [hca] at hrec
              rw [hPS] at hMP
              have hM2:=Lib.hid (show (M ++ [eb a]) ++ PS2 = L.map eb ++ ps by rw [List.append_assoc];exact hMP.out)
              have hnn:=nsum_pos c
              have hlx2:=Lib.hid (show left - nsum a = nsum c ∧ vr c ∧ (en c).length ≤ 3000 from ⟨by have:=hlx.out;omega,hva.2,by have:=hlx.out;omega⟩)
              obtain ⟨na,hna⟩ : ∃ y,nsum a = y:=⟨_,rfl⟩
              rw [hna] at hrec hlx2 ha1
              simp only [hna] at hcol2
              have hl3 : na ≤ left:=by have:=hlx.out;omega
              obtain ⟨pa,hpa⟩ : ∃ y,eb a = y:=⟨_,rfl⟩
              rw [hpa] at hM2 haz
              simp only [hpa] at hpc hcol2
              obtain ⟨px,hpx⟩ : ∃ y,eb x = y:=⟨_,rfl⟩
              obtain ⟨pc,hpc2⟩ : ∃ y,eb c = y:=⟨_,rfl⟩
              rw [hpx] at haz hxz hcut ⊢
              rw [hpa,hpc2] at hcut
              simp only [hpx] at hpc
              replace hrec:=Lib.hid hrec
              replace hpc:=Lib.hid hpc
              replace hcol2:=Lib.hid hcol2
              replace hcut:=Lib.hid hcut
              replace hpc2:=Lib.hid hpc2
              have twl : decide (width < left) = true:=decide_eq_true hlw
              have ew : wrap64 (left - na) = left - na:=w64 (by omega) (by omega)
              clear hlb hxl hPS hac e1 hva hcn hca hcs hnn hna hpa hpx hwp hMP hlx hl0
              go_wp2_with (first
                | (go_at_call 50;go_must (refine (hpc.out _).mono ?_;rintro e wp ⟨rfl,hb⟩;have Rp:=Lib.hid (Kd.R_below RM.out hb);have Bp:=Lib.hid (below_step hBi.out hb);clear hb))
                | ((with_reducible refine gate_builtin (b:=.append) (xs:=#[.tmp 62,.tmp 64]) rfl ?_);go_must (at_builtin;refine Kd.R_append Kd.string (w0:=w3) w3.heap.size rfl (.tmp 62) (.tmp 64) 25 9 (.string ⟨#[]⟩) 16 rfl Tryz.underlying25 str_info rfl (by decide) (by decide) _ M pa [.string pa] (fun _=>True) (fun _=>False) rfl ?hx rfl (fun _ hk=>hk.elim) (fun _ _=>trivial) Rp.out Bp.out (Bp.out).size ?aL ?_;(case hx=>first | rfl | (go_simp;done) | (go_simp;rfl));(case aL=>omega);intro v8 w8 R8 hb _ _;replace R8:=Lib.hid R8;have B8:=Lib.hid hb;clear hb))
                | (go_at_call 49;go_must (refine (hcol2.out _).mono ?_;rintro e wq ⟨rfl,hb⟩;have Rq:=Lib.hid (Kd.R_below R8.out hb);have Bq:=Lib.hid (below_step B8.out hb);clear hb)))
              refine ⟨⟨f',M ++ [pa],PS2,c,left - na,by rw [hcut.out,hpc2.out],rfl,hlx2,hrec,hM2,Rq,Bq⟩,?_⟩
              simp only [intOf];omega
            · obtain ⟨hP0,hr⟩:=wpieces_done hlw hwp.out
              have hM3:=hMP.out
              rw [hP0,List.append_nil] at hM3
              have twl : decide (width < left) = false:=decide_eq_false hlw
              have hs2:=s1b.out
              rw [← hM3] at hs2
              rw [hr] at hs2
              obtain ⟨px,hpx⟩ : ∃ y,eb x = y:=⟨_,rfl⟩
              rw [hpx] at hs2 hxz ⊢
              clear hP0 hMP hwp hr hlx hlb hxl hTl
              by_cases hr0 : px.size = 0
              · rw [if_pos hr0] at hs2
                obtain ⟨u1,u2⟩:=Prod.mk.inj (Option.some.inj hs2)
                have hx1 : x = []:=eb_size0.1 (by rw [hpx];exact hr0)
                have hx0 : px = ⟨#[]⟩:=by rw [← hpx,hx1];rfl
                subst hx0
                subst u2
                replace u1:=Lib.hid u1
                clear hpx hs2 hM3
                subst hQ
                go_wp2
                refine ⟨⟨i + 1,q + 1,L2,false,rfl,rfl,Lib.hid ⟨by have:=hq.out;omega,hlt⟩,hgo3,hL3,Lib.hid (by rw [← u1.out];exact RM.out),hBi⟩,?_⟩
                simp only [intOf];have:=hq.out;omega
              · rw [if_neg hr0] at hs2
                obtain ⟨u1,u2⟩:=Prod.mk.inj (Option.some.inj hs2)
                subst u2
                have hne : px ≠ ⟨#[]⟩:=fun h=>hr0 (by rw [h];rfl)
                have hnb : px.toList.isEmpty = false:=nonempty_list hne
                replace u1:=Lib.hid u1
                clear hpx hs2 hM3 hr0
                subst hQ
                go_wp2_with (first
                  | ((with_reducible refine gate_builtin (b:=.append) (xs:=#[.tmp 77,.tmp 79]) rfl ?_);go_must (at_builtin;refine Kd.R_append Kd.string (w0:=w3) w3.heap.size rfl (.tmp 77) (.tmp 79) 25 9 (.string ⟨#[]⟩) 16 rfl Tryz.underlying25 str_info rfl (by decide) (by decide) _ M px [.string px] (fun _=>True) (fun _=>False) rfl ?hx rfl (fun _ hk=>hk.elim) (fun _ _=>trivial) RM.out hBi.out (hBi.out).size ?aL ?_;(case hx=>first | rfl | (go_simp;done) | (go_simp;rfl));(case aL=>omega);intro v9 w9 R9 hb _ _;replace R9:=Lib.hid R9;have B9:=Lib.hid hb;clear hb)))
                refine ⟨⟨i + 1,q + 1,L2,true,rfl,rfl,Lib.hid ⟨by have:=hq.out;omega,hlt⟩,hgo3,hL3,Lib.hid (by rw [← u1.out];exact R9.out),B9⟩,?_⟩
                simp only [intOf];have:=hq.out;omega
      | true =>
        have hLn : 0 < L.length:=List.length_pos_iff.2 (hLk.out.2.1 rfl)
        obtain ⟨g6,k6,e6⟩:=R_form_n RL.out (n:=L.length) hln hLn
        cases e6
        obtain ⟨li,hli⟩ : ∃ y : Int,(L.length : Int) - 1 = y:=⟨_,rfl⟩
        have hl0 : 0 ≤ li:=by omega
        have hl1 : li < (L.length : Int):=by omega
        have hlt2 : li.toNat = L.length - 1:=by omega
        obtain ⟨lb,hlb⟩ : ∃ x,wlast (L.map eb) = x:=⟨_,rfl⟩
        have er2 : rdOf ByteArray.empty (L.map eb) li = lb:=by
          rw [← hlb,← hli,← hln]
          exact rdOf_last (fun h=>by rw [h] at hln;simp at hln;omega)
        have hlz : lb.size ≤ 3000:=by
          obtain ⟨x,hx,e⟩:=wlast_eb (hLk.out.2.1 rfl)
          rw [← hlb,e,eb_size]
          have:=wm_mem L x hx
          have:=hLk.out.2.2
          omega
        have hul:=ucols_bound lb
        have hcolL:=fun w=>columns_any lb w (by omega)
        obtain ⟨cl,hcl⟩ : ∃ x,ucols lb = x:=⟨_,rfl⟩
        simp only [hcl] at hcolL
        rw [hcl] at hul
        have hcl0 : 0 ≤ cl:=hul.1
        have hcl1 : cl ≤ 6000:=by omega
        have e1l : wrap64 (cl + 1) = cl + 1:=w64 (by omega) (by omega)
        have e2l : wrap64 (cl + 1 + cb) = cl + 1 + cb:=w64 (by omega) (by omega)
        rw [hli] at ewl
        replace hcolL:=Lib.hid hcolL
        have FC:=Kd.R_celln ByteArray.empty RL.out li hl0 hl1
        rw [er2] at FC
        have FZ:=FC.2
        replace FC:=FC.1
        replace er2:=Lib.hid er2
        clear hul hLk hln
        have tok1 : True:=trivial
        have tok2 : True:=trivial
        by_cases hj : cl + 1 + cb ≤ width
        · have s2:=s1b
          unfold wstep at s2
          rw [hlb,hcl,hcb,if_pos ⟨rfl,hj⟩,List.length_map,← hlt2] at s2
          obtain ⟨u1,u2⟩:=Prod.mk.inj (Option.some.inj s2)
          subst u2
          replace u1:=Lib.hid u1
          replace hcb:=Lib.hid hcb
          replace hcl:=Lib.hid hcl
          replace hlb:=Lib.hid hlb
          replace hlt2:=Lib.hid hlt2
          replace s1b:=Lib.hid s1b
          have tj : decide (cl + 1 + cb ≤ width) = true:=decide_eq_true hj
          have big1 : ¬ 9223372036854775807 < 1 + wb.size:=by omega
          have big2 : ¬ 9223372036854775807 < lb.size + (1 + wb.size):=by omega
          clear s2
          go_wp2_with (first
            | (go_at_call 49;have tq:=tok1;go_must (clear tq tok1;refine (hcolL.out _).mono ?_;rintro e wa ⟨rfl,hb⟩;have RLa:=Lib.hid (Kd.R_below RL.out hb);have Ba:=Lib.hid (below_step hB.out hb);clear hb))
            | (go_at_call 49;have tq:=tok2;go_must (clear tq tok2;refine (hcol.out _).mono ?_;rintro e wc ⟨rfl,hb⟩;have RLc:=Lib.hid (Kd.R_below RLa.out hb);have Bc:=Lib.hid (below_step Ba.out hb);clear hb;have FC2:=Kd.R_celln ByteArray.empty RLc.out li hl0 hl1;rw [er2.out] at FC2;have FZ2:=FC2.2;replace FC2:=FC2.1)))
          have PG:=Kd.R_putg RLc.out li (lb ++ (spc ++ wb))
          rw [u1.out] at PG
          refine ⟨⟨i + 1,q + 1,L2,true,rfl,rfl,Lib.hid ⟨by have:=hq.out;omega,hlt⟩,hgo3,Lib.hid ⟨hL3.out.1,fun _=>(by first | exact hL3.out.2.1 rfl | exact hL3.out.2.1 trivial),hL3.out.2.2⟩,Lib.hid PG.1,Lib.hid (Bc.out.setCell (p:=⟨g6,li.toNat,none⟩) (Kd.R_base RLc.out g6 rfl) _)⟩,?_⟩
          simp only [intOf];have:=hq.out;omega
        · have tj : decide (cl + 1 + cb ≤ width) = false:=decide_eq_false hj
          unfold wstep at s1b
          rw [if_neg (fun h=>hj (by have h2:=h.2;rw [hlb,hcl,hcb] at h2;exact h2))] at s1b
          cases hps0 : wpieces width wb.size wb (ucols wb) with
          | none=>rw [hps0] at s1b;cases s1b
          | some pr =>
            obtain ⟨ps,r⟩:=pr
            rw [hps0] at s1b
            rw [hcb] at hps0
            replace s1b : (if r.size = 0 then some (L.map eb ++ ps,false) else some (L.map eb ++ ps ++ [r],true)) = some (L2.map eb,o2):=s1b
            have hps:=Lib.hid hps0
            clear hps0
            have hTl:=Lib.hid (show (L.map eb ++ ps).length ≤ 6000 by
              have h1:=wm_length L2
              by_cases hr0 : r.size = 0
              · rw [if_pos hr0] at s1b
                have:=congrArg List.length (Prod.mk.inj (Option.some.inj s1b)).1
                simp only [List.length_map,List.length_append] at this ⊢
                omega
              · rw [if_neg hr0] at s1b
                have:=congrArg List.length (Prod.mk.inj (Option.some.inj s1b)).1
                simp only [List.length_map,List.length_append,List.length_singleton] at this ⊢
                omega)
            replace s1b:=Lib.hid s1b
            replace hcb:=Lib.hid hcb
            replace hcl:=Lib.hid hcl
            replace hlb:=Lib.hid hlb
            replace hlt2:=Lib.hid hlt2
            go_wp2_with (first
              | (go_at_call 49;have tq:=tok1;go_must (clear tq tok1;refine (hcolL.out _).mono ?_;rintro e wa ⟨rfl,hb⟩;have RLa:=Lib.hid (Kd.R_below RL.out hb);have Ba:=Lib.hid (below_step hB.out hb);clear hb))
              | (go_at_call 49;have tq:=tok2;go_must (clear tq tok2;refine (hcol.out _).mono ?_;rintro e wc ⟨rfl,hb⟩;have RLc:=Lib.hid (Kd.R_below RLa.out hb);have Bc:=Lib.hid (below_step Ba.out hb);clear hb))
              | (go_at_call 49;go_must (refine (hcol.out _).mono ?_;rintro e wa2 ⟨rfl,hb⟩;have RLb:=Lib.hid (Kd.R_below RLc.out hb);have Bb:=Lib.hid (below_step Bc.out hb);clear hb RL)))
            clear FC FZ hli
            go_hide hQ
            obtain ⟨wo,rfl⟩ : ∃ x,x = wr:=⟨_,rfl⟩
            go_loopw [6,9,11] (fun v6 v9 v11 wi=>∃ (f : Nat) (M PS : List ByteArray) (x : List Nat) (left : Int),v9 = .string (eb x) ∧ v11 = .int .i64 left ∧ Hid (left = nsum x ∧ vr x ∧ (en x).length ≤ 3000) ∧ Hid (wpieces width f (eb x) left = some (PS,r)) ∧ Hid (M ++ PS = L.map eb ++ ps) ∧ Hid (Kd.R Kd.string 9 wi w3.heap.size (fun _=>True) v6 M) ∧ Hid (Below w3.heap.size w3 wi)) (fun _ _ v11 _=>(intOf v11).toNat)
            case atStart=>exact ⟨wb.size,L.map eb,ps,bW,cb,by rw [hwb.out],rfl,hbx,by rw [hwb.out];exact hps,Lib.hid rfl,by first | exact RL | exact RLb,by first | exact hB | exact Bb⟩
            case round =>
              obtain ⟨f,M,PS,x,left,rfl,rfl,hlx,hwp,hMP,RM,hBi⟩:=hrel
              have hxz : (eb x).size ≤ 3000:=by rw [eb_size];exact hlx.out.2.2
              have hlb:=nsum_pos x
              have hxl:=en_length x
              have hl0 : 0 ≤ left:=by have:=hlx.out;omega
              have hl1 : left ≤ 6000:=by have:=hlx.out;omega
              obtain ⟨A7,c7,rfl⟩:=Kd.R_slice RM.out
              have hMl : M.length ≤ 6000:=by
                have h1:=congrArg List.length hMP.out
                have h2:=hTl.out
                rw [List.length_append] at h1
                omega
              by_cases hlw : width < left
              · obtain ⟨f',PS2,hPS,hrec⟩:=wpieces_more hlw hwp.out
                obtain ⟨a,c,hac,e1,ha1,-,-,hcut⟩:=wpiece_en (rs:=x) hlx.out.2.1 h5 (by have:=hlx.out;omega)
                have hva : vr a ∧ vr c:=by have h:=hlx.out.2.1;rw [hac] at h;exact vr_append h
                have hcn : nsum x = nsum a + nsum c:=by rw [hac,nsum_append]
                have hca:=ucols_en hva.1
                have hcs : (en x).length = (en a).length + (en c).length:=by rw [hac,en_append,List.length_append]
                have hpc:=fun w=>piece_calls (s:=eb x) (width:=width) (by omega) h120 w
                have haz : (eb a).size ≤ (eb x).size:=by rw [eb_size,eb_size];omega
                have hcol2:=fun w=>columns_any (eb a) w (by omega)
                rw [e1] at hPS hrec
                rw [hcut] at hrec
                simp only [e1] at hpc
                simp only [hca] at hcol2
                rw [hca] at hrec
                rw [hPS] at hMP
                have hM2:=Lib.hid (show (M ++ [eb a]) ++ PS2 = L.map eb ++ ps by rw [List.append_assoc];exact hMP.out)
                have hnn:=nsum_pos c
                have hlx2:=Lib.hid (show left - nsum a = nsum c ∧ vr c ∧ (en c).length ≤ 3000 from ⟨by have:=hlx.out;omega,hva.2,by have:=hlx.out;omega⟩)
                obtain ⟨na,hna⟩ : ∃ y,nsum a = y:=⟨_,rfl⟩
                rw [hna] at hrec hlx2 ha1
                simp only [hna] at hcol2
                have hl3 : na ≤ left:=by have:=hlx.out;omega
                obtain ⟨pa,hpa⟩ : ∃ y,eb a = y:=⟨_,rfl⟩
                rw [hpa] at hM2 haz
                simp only [hpa] at hpc hcol2
                obtain ⟨px,hpx⟩ : ∃ y,eb x = y:=⟨_,rfl⟩
                obtain ⟨pc,hpc2⟩ : ∃ y,eb c = y:=⟨_,rfl⟩
                rw [hpx] at haz hxz hcut ⊢
                rw [hpa,hpc2] at hcut
                simp only [hpx] at hpc
                replace hrec:=Lib.hid hrec
                replace hpc:=Lib.hid hpc
                replace hcol2:=Lib.hid hcol2
                replace hcut:=Lib.hid hcut
                replace hpc2:=Lib.hid hpc2
                have twl : decide (width < left) = true:=decide_eq_true hlw
                have ew : wrap64 (left - na) = left - na:=w64 (by omega) (by omega)
                clear hlb hxl hPS hac e1 hva hcn hca hcs hnn hna hpa hpx hwp hMP hlx hl0
                go_wp2_with (first
                  | (go_at_call 50;go_must (refine (hpc.out _).mono ?_;rintro e wp ⟨rfl,hb⟩;have Rp:=Lib.hid (Kd.R_below RM.out hb);have Bp:=Lib.hid (below_step hBi.out hb);clear hb))
                  | ((with_reducible refine gate_builtin (b:=.append) (xs:=#[.tmp 62,.tmp 64]) rfl ?_);go_must (at_builtin;refine Kd.R_append Kd.string (w0:=w3) w3.heap.size rfl (.tmp 62) (.tmp 64) 25 9 (.string ⟨#[]⟩) 16 rfl Tryz.underlying25 str_info rfl (by decide) (by decide) _ M pa [.string pa] (fun _=>True) (fun _=>False) rfl ?hx rfl (fun _ hk=>hk.elim) (fun _ _=>trivial) Rp.out Bp.out (Bp.out).size ?aL ?_;(case hx=>first | rfl | (go_simp;done) | (go_simp;rfl));(case aL=>omega);intro v8 w8 R8 hb _ _;replace R8:=Lib.hid R8;have B8:=Lib.hid hb;clear hb))
                  | (go_at_call 49;go_must (refine (hcol2.out _).mono ?_;rintro e wq ⟨rfl,hb⟩;have Rq:=Lib.hid (Kd.R_below R8.out hb);have Bq:=Lib.hid (below_step B8.out hb);clear hb)))
                refine ⟨⟨f',M ++ [pa],PS2,c,left - na,by rw [hcut.out,hpc2.out],rfl,hlx2,hrec,hM2,Rq,Bq⟩,?_⟩
                simp only [intOf];omega
              · obtain ⟨hP0,hr⟩:=wpieces_done hlw hwp.out
                have hM3:=hMP.out
                rw [hP0,List.append_nil] at hM3
                have twl : decide (width < left) = false:=decide_eq_false hlw
                have hs2:=s1b.out
                rw [← hM3] at hs2
                rw [hr] at hs2
                obtain ⟨px,hpx⟩ : ∃ y,eb x = y:=⟨_,rfl⟩
                rw [hpx] at hs2 hxz ⊢
                clear hP0 hMP hwp hr hlx hlb hxl hTl
                by_cases hr0 : px.size = 0
                · rw [if_pos hr0] at hs2
                  obtain ⟨u1,u2⟩:=Prod.mk.inj (Option.some.inj hs2)
                  have hx1 : x = []:=eb_size0.1 (by rw [hpx];exact hr0)
                  have hx0 : px = ⟨#[]⟩:=by rw [← hpx,hx1];rfl
                  subst hx0
                  subst u2
                  replace u1:=Lib.hid u1
                  clear hpx hs2 hM3
                  subst hQ
                  go_wp2
                  refine ⟨⟨i + 1,q + 1,L2,false,rfl,rfl,Lib.hid ⟨by have:=hq.out;omega,hlt⟩,hgo3,hL3,Lib.hid (by rw [← u1.out];exact RM.out),hBi⟩,?_⟩
                  simp only [intOf];have:=hq.out;omega
                · rw [if_neg hr0] at hs2
                  obtain ⟨u1,u2⟩:=Prod.mk.inj (Option.some.inj hs2)
                  subst u2
                  have hne : px ≠ ⟨#[]⟩:=fun h=>hr0 (by rw [h];rfl)
                  have hnb : px.toList.isEmpty = false:=nonempty_list hne
                  replace u1:=Lib.hid u1
                  clear hpx hs2 hM3 hr0
                  subst hQ
                  go_wp2_with (first
                    | ((with_reducible refine gate_builtin (b:=.append) (xs:=#[.tmp 77,.tmp 79]) rfl ?_);go_must (at_builtin;refine Kd.R_append Kd.string (w0:=w3) w3.heap.size rfl (.tmp 77) (.tmp 79) 25 9 (.string ⟨#[]⟩) 16 rfl Tryz.underlying25 str_info rfl (by decide) (by decide) _ M px [.string px] (fun _=>True) (fun _=>False) rfl ?hx rfl (fun _ hk=>hk.elim) (fun _ _=>trivial) RM.out hBi.out (hBi.out).size ?aL ?_;(case hx=>first | rfl | (go_simp;done) | (go_simp;rfl));(case aL=>omega);intro v9 w9 R9 hb _ _;replace R9:=Lib.hid R9;have B9:=Lib.hid hb;clear hb)))
                  refine ⟨⟨i + 1,q + 1,L2,true,rfl,rfl,Lib.hid ⟨by have:=hq.out;omega,hlt⟩,hgo3,hL3,Lib.hid (by rw [← u1.out];exact R9.out),B9⟩,?_⟩
                  simp only [intOf];have:=hq.out;omega
end Go.Proofs.YtpfbcepgmigeiaaGreatDoor.Q
end
section
namespace Go.Proofs.YtpfbcepgmigeiaaGreatDoor.Q
open Go.RowKit Go.Shelf Go.Lib Go.Proofs.YtpfbcepgmigeiaaGreatDoorW.PrintWords Go.Proofs.YtpfbcepgmigeiaaGreatDoorW.PrintLast Go.Proofs.YtpfbcepgmigeiaaGreatDoorW.PrintMore
set_option linter.unusedVariables false
set_option linter.unusedSimpArgs false
open Go.Proofs.YtpfbcepgmigeiaaGreatDoorS
set_option maxHeartbeats 8000000 in
set_option maxRecDepth 1000000 in
theorem clues_bad {title : ByteArray} {H W : Int} {A2 : Option Addr} {c2 : Nat} {bl : List Bool} {A3 : Option Addr} {c3 : Nat} {ri : List Bool} {A4 : Option Addr} {c4 : Nat} {be : List Bool} {A5 : Option Addr} {c5 : Nat} {cells : List ByteArray} {A6 : Option Addr} {c6 : Nat} {clues : List ByteArray} {w : World} (hT : Tabs w) (hP : PuzR A2 c2 bl A3 c3 ri A4 c4 be A5 c5 cells A6 c6 clues w) (hz : PuzS title cells clues) {er : Int} (hp : pcheck title H W bl ri be cells clues = er) (he : er ≠ 0) (down : Bool) (width : Int) :
    Calls Tryz.prog 6 #[.agg #[.string title,.int .i64 H,.int .i64 W,.slice A2 bl.length c2,.slice A3 ri.length c3,.slice A4 be.length c4,.slice A5 cells.length c5,.slice A6 clues.length c6],.bool down,.int .i64 width] w fun e w'=>e = .returned (.tuple #[.slice none 0 0,.int .i64 er]) ∧ Below w.heap.size w w':=by
  have hx:=box1 w (.cells #[.string title,.int .i64 H,.int .i64 W,.slice A2 bl.length c2,.slice A3 ri.length c3,.slice A4 be.length c4,.slice A5 cells.length c5,.slice A6 clues.length c6] 27)
  have px:=cells8 hx.1
  replace hx:=Lib.hid hx
  replace hp:=Lib.hid hp
  have hu27:=Tryz.underlying27
  have hu24:=Tryz.underlying24
  have te : (er != 0) = true:=bne_iff_ne.2 he
  go_enter Tryz.func6,Tryz.ntmps6
  go_wp2_with (go_at_call 13;go_must (refine (page_calls (tabs_below hT hx.out.2) (hP.below hx.out.2) hz).mono ?_;rw [hp.out];rintro e w3 ⟨rfl,hb3⟩))
  go_ret2
  exact ⟨rfl,below_step hx.out.2 hb3⟩
set_option maxHeartbeats 8000000 in
set_option maxRecDepth 1000000 in
theorem clues_wide {title : ByteArray} {H W : Int} {A2 : Option Addr} {c2 : Nat} {bl : List Bool} {A3 : Option Addr} {c3 : Nat} {ri : List Bool} {A4 : Option Addr} {c4 : Nat} {be : List Bool} {A5 : Option Addr} {c5 : Nat} {cells : List ByteArray} {A6 : Option Addr} {c6 : Nat} {clues : List ByteArray} {w : World} (hT : Tabs w) (hP : PuzR A2 c2 bl A3 c3 ri A4 c4 be A5 c5 cells A6 c6 clues w) (hz : PuzS title cells clues) (hp : pcheck title H W bl ri be cells clues = 0) (down : Bool) (width : Int) (hw : width < 10 ∨ 120 < width) :
    Calls Tryz.prog 6 #[.agg #[.string title,.int .i64 H,.int .i64 W,.slice A2 bl.length c2,.slice A3 ri.length c3,.slice A4 be.length c4,.slice A5 cells.length c5,.slice A6 clues.length c6],.bool down,.int .i64 width] w fun e w'=>e = .returned (.tuple #[.slice none 0 0,.int .i64 200]) ∧ Below w.heap.size w w':=by
  have hx:=box1 w (.cells #[.string title,.int .i64 H,.int .i64 W,.slice A2 bl.length c2,.slice A3 ri.length c3,.slice A4 be.length c4,.slice A5 cells.length c5,.slice A6 clues.length c6] 27)
  have px:=cells8 hx.1
  replace hx:=Lib.hid hx
  replace hp:=Lib.hid hp
  have hu27:=Tryz.underlying27
  have hu24:=Tryz.underlying24
  have t0 : ((0 : Int) != 0) = false:=rfl
  rcases hw with hw | hw
  · have t1 : decide (width < 10) = true:=decide_eq_true hw
    go_enter Tryz.func6,Tryz.ntmps6
    go_wp2_with (go_at_call 13;go_must (refine (page_calls (tabs_below hT hx.out.2) (hP.below hx.out.2) hz).mono ?_;rw [hp.out];rintro e w3 ⟨rfl,hb3⟩))
    go_ret2
    exact ⟨rfl,below_step hx.out.2 hb3⟩
  · have t1 : decide (width < 10) = false:=decide_eq_false (by omega)
    have t2 : decide (120 < width) = true:=decide_eq_true hw
    go_enter Tryz.func6,Tryz.ntmps6
    go_wp2_with (go_at_call 13;go_must (refine (page_calls (tabs_below hT hx.out.2) (hP.below hx.out.2) hz).mono ?_;rw [hp.out];rintro e w3 ⟨rfl,hb3⟩))
    go_ret2
    exact ⟨rfl,below_step hx.out.2 hb3⟩
theorem sp4_lit : spB 4 = ⟨#[32,32,32,32]⟩:=rfl
set_option maxHeartbeats 8000000 in
set_option maxRecDepth 1000000 in
theorem clues_ok {title : ByteArray} {H W : Int} {A2 : Option Addr} {c2 : Nat} {bl : List Bool} {A3 : Option Addr} {c3 : Nat} {ri : List Bool} {A4 : Option Addr} {c4 : Nat} {be : List Bool} {A5 : Option Addr} {c5 : Nat} {cells : List ByteArray} {A6 : Option Addr} {c6 : Nat} {clues : List ByteArray} {w : World} (hT : Tabs w) (hP : PuzR A2 c2 bl A3 c3 ri A4 c4 be A5 c5 cells A6 c6 clues w) (hz : PuzS title cells clues) (hp : pcheck title H W bl ri be cells clues = 0) (down : Bool) {width : Int} (hw1 : 10 ≤ width) (hw2 : width ≤ 120) :
    Calls Tryz.prog 6 #[.agg #[.string title,.int .i64 H,.int .i64 W,.slice A2 bl.length c2,.slice A3 ri.length c3,.slice A4 be.length c4,.slice A5 cells.length c5,.slice A6 clues.length c6],.bool down,.int .i64 width] w (DrawOk (cluesB H W bl ri be clues down width) w):=by
  obtain ⟨hg,-,-,hcl,hli⟩:=pcheck_right hp
  obtain ⟨hH,hW,hl⟩:=gcheck_ok hg
  have hm:=mul_small hH hW
  have hn : 1 ≤ bl.length ∧ bl.length ≤ 256:=by omega
  have hnum:=slots_num hg hn.2
  have hfac : (slotsOf H W bl ri be).length ≤ 512:=by have:=(slotsOf_facts hg).1;omega
  have hLs : slots_List.f H W bl ri be = some (slotsOf H W bl ri be):=rfl
  have hgood:=fun m hm=>(clues_good (down:=down) hw1 hli hnum hcl m hm).2
  unfold cluesB
  obtain ⟨L,hL⟩ : ∃ L,slotsOf H W bl ri be = L:=⟨_,rfl⟩
  rw [hL] at hnum hfac hLs hcl hgood ⊢
  have hx:=box1 w (.cells #[.string title,.int .i64 H,.int .i64 W,.slice A2 bl.length c2,.slice A3 ri.length c3,.slice A4 be.length c4,.slice A5 cells.length c5,.slice A6 clues.length c6] 27)
  have px:=cells8 hx.1
  replace hx:=Lib.hid hx
  replace hp:=Lib.hid hp
  replace hnum:=Lib.hid hnum
  replace hgood:=Lib.hid hgood
  replace hfac:=Lib.hid hfac
  replace hLs:=Lib.hid hLs
  replace hL:=Lib.hid hL
  replace hm:=Lib.hid hm
  replace hl:=Lib.hid hl
  replace hg:=Lib.hid hg
  replace hcl:=Lib.hid hcl
  replace hli:=Lib.hid hli
  have hu27:=Tryz.underlying27
  have hu24:=Tryz.underlying24
  have hu36:=Tryz.underlying48
  have hz0:=hz
  replace hz:=Lib.hid hz
  have t0 : ((0 : Int) != 0) = false:=rfl
  have ew5 : wrap64 (width - 5) = width - 5:=w64 (by omega) (by omega)
  go_enter Tryz.func6,Tryz.ntmps6
  go_wp2_with (first
    | (go_at_call 13;go_must (refine (page_calls (tabs_below hT hx.out.2) (hP.below hx.out.2) hz0).mono ?_;rw [hp.out];rintro e w3 ⟨rfl,hb3⟩;have P3:=Lib.hid (blk_below hx.out.1 hb3);have p3:=cells8 P3.out;have B3:=Lib.hid (below_step hx.out.2 hb3);clear hb3))
    | (go_at_call 14;go_must (have hPx:=hP.below B3.out;refine (slots_List.calls _ _ _ _ _ _ _ _ _ _ _ _ _ hPx.r2 hPx.k2 hPx.r3 hPx.k3 hPx.r4 hPx.k4 hLs.out).mono ?_;clear hPx;rintro e w7 ⟨vL,rfl,hS7,hb7⟩;obtain ⟨AL,cL,rfl⟩:=Kd.S_slice hS7;replace hS7:=Lib.hid (Kd.S_lower hS7 B3.out.size);have P7:=Lib.hid (blk_below P3.out hb7);have B7:=Lib.hid (below_step B3.out hb7);clear hb7 p3 P3 B3)))
  clear px
  go_loopw [9,33] (fun v9 v33 wr=>∃ (m : Nat) (j : Int),v33 = .int .i64 j ∧ Hid (j = m ∧ m ≤ L.length) ∧ Hid (wr.heap[w.heap.size]? = some (.cells #[.string title,.int .i64 H,.int .i64 W,.slice A2 bl.length c2,.slice A3 ri.length c3,.slice A4 be.length c4,.slice A5 cells.length c5,.slice A6 clues.length c6] 27 (0,0))) ∧ Hid (Kd.R Kd.string 9 wr w.heap.size (fun _=>True) v9 (cluesN L down clues width m)) ∧ Hid (Kd.S k48 48 wr w.heap.size (fun _=>True) (.slice AL L.length cL) L) ∧ Hid (Below w.heap.size w wr)) (fun _ v33 _=>L.length - (intOf v33).toNat)
  case atStart=>exact ⟨0,0,rfl,Lib.hid ⟨rfl,Nat.zero_le _⟩,P7,Lib.hid (Kd.R_nil _ _ _ _ _),hS7,B7⟩
  case round =>
    clear P7 hS7 B7
    obtain ⟨m,j,rfl,hj,P7,R7,hS7,B7⟩:=hrel
    by_cases hlt : m < L.length
    · have tlt : decide (j < (L.length : Int)) = true:=decide_eq_true (by have:=hj.out;omega)
      have hj0 : 0 ≤ j:=by have:=hj.out;omega
      have hj1 : j < (L.length : Int):=by have:=hj.out;omega
      have ej : wrap64 (j + 1) = j + 1:=w64 (by omega) (by have:=hfac.out;omega)
      obtain ⟨A9,c9,rfl⟩:=Kd.R_slice R7.out
      obtain ⟨ad,Ax,cx,eA,z0,z1,z2,zc,hC⟩:=at_T48 (Kd.S_reads' hS7.out).2.2 j hj0 hj1
      cases eA
      have hjm : rd_T48 L j ∈ L:=by rw [hj.out.1];exact mem_rd hlt
      have hn1:=hnum.out _ hjm
      have hsn : cluesN L down clues width (m + 1) = cluesN L down clues width m ++ clueAt L down clues width m:=rfl
      unfold clueAt dnAt at hsn
      rw [← hj.out.1] at hsn
      obtain ⟨x,hx2⟩ : ∃ x,rd_T48 L j = x:=⟨_,rfl⟩
      rw [hx2] at z0 z1 z2 zc hjm hsn hn1
      have hxn0 : 1 ≤ x.f0:=hn1.1
      have hxn1 : x.f0 ≤ 256:=hn1.2
      have hln0 : (cluesN L down clues width m).length ≤ 2000000:=by have h1:=hgood.out m (by omega);have h2:=hfac.out;omega
      have hln1 : (cluesN L down clues width (m + 1)).length ≤ 2000000:=by have h1:=hgood.out (m + 1) hlt;have h2:=hfac.out;omega
      have q8:=box1 wr (.cells #[.int .i64 x.f0,.bool x.f1,.slice Ax x.f2.length cx] 48)
      have D8:=q8.2
      have x8:=cells3 q8.1
      have X8:=Lib.hid q8.1
      have P8:=Lib.hid (blk_below P7.out D8)
      have p8:=cells8 P8.out
      have R8:=Lib.hid (Kd.R_below R7.out D8)
      have S8:=Lib.hid (Kd.S_below hS7.out D8)
      have B8:=Lib.hid (below_step B7.out D8)
      obtain ⟨ad6,eA6,z6⟩:=Kd.at_string (hP.below B8.out).r6 j hj0 (by rw [hcl.out];exact hj1)
      cases eA6
      replace D8:=Lib.hid D8
      have hlc:=line_at hli.out (m:=m) (by rw [hcl.out];exact hlt)
      rw [← hj.out.1] at hlc
      obtain ⟨c,hc⟩ : ∃ c,rdOf ByteArray.empty clues j = c:=⟨_,rfl⟩
      rw [hc] at z6 hlc hsn
      by_cases hd : x.f1 = down
      · have hd2 : (x.f1 == down) = true:=by rw [hd];exact beq_self_eq_true down
        have hjc : j < (clues.length : Int):=by rw [hcl.out];exact hj1
        rw [if_pos hd2] at hsn
        obtain ⟨rs,hrv,hre⟩:=valid_runes hlc.1
        have hrz : (en rs).length ≤ 960:=by rw [← eb_size,← hre];exact hlc.2
        have hwrap:=fun w=>wrap_calls hrv hrz (width:=width - 5) (by omega) (by omega) w
        rw [← hre] at hwrap
        obtain ⟨T,t1,-,t3,t4⟩:=good_clue hxn0 hxn1 hlc.1 hlc.2 hw1
        have hTe : wwL c (width - 5) = T:=by unfold wwL;rw [t1];rfl
        rw [hTe] at hwrap hsn
        have hd4:=hdB_size hxn0 hxn1
        have hno:=num_ok hxn0 hxn1
        have hcat : hdB x.f0 = spB (3 - (itoaB x.f0).size) ++ itoaB x.f0 ++ ⟨#[46]⟩:=rfl
        obtain ⟨hd0,hhd⟩ : ∃ y,hdB x.f0 = y:=⟨_,rfl⟩
        have hsn2 : cluesN L down clues width (m + 1) = cluesN L down clues width m ++ ((if T.length = 0 then [hd0] else []) ++ tailL hd0 T):=by rw [hsn];unfold clueL;rw [hhd]
        rw [hhd] at hd4 hcat
        obtain ⟨y,hy⟩ : ∃ y,itoaB x.f0 = y:=⟨_,rfl⟩
        rw [hy] at hno hcat
        have hys : y.size ≤ 3:=hno.1
        obtain ⟨k3,hk3⟩ : ∃ k : Nat,3 - y.size = k:=⟨_,rfl⟩
        have hki : (3 : Int) - (y.size : Int) = (k3 : Int):=by omega
        have ewk : wrap64 ((3 : Int) - (y.size : Int)) = (k3 : Int):=by rw [hki];exact w64 (by omega) (by omega)
        have hk3b : k3 ≤ 3:=by omega
        rw [hk3] at hcat
        have hspz : (spB k3).size = k3:=spB_size k3
        obtain ⟨sp,hsp⟩ : ∃ s,spB k3 = s:=⟨_,rfl⟩
        rw [hsp] at hcat hspz
        have hspb : sp.size ≤ 3:=by omega
        have big1 : ¬ 9223372036854775807 < sp.size + y.size:=by omega
        have big2 : ¬ 9223372036854775807 < sp.size + y.size + 1:=by omega
        obtain ⟨F,hF⟩ : ∃ F,cluesN L down clues width (m + 1) = F:=⟨_,rfl⟩
        rw [hF] at hsn2 hln1
        obtain ⟨C,hC2⟩ : ∃ C,cluesN L down clues width m = C:=⟨_,rfl⟩
        rw [hC2] at hsn2 hln0 R8
        have hCl : (cluesN L down clues width m).length = C.length:=congrArg List.length hC2
        rw [hCl]
        replace hF:=Lib.hid hF
        replace hC2:=Lib.hid hC2
        replace hCl:=Lib.hid hCl
        replace hsn2:=Lib.hid hsn2
        replace hspz:=Lib.hid hspz
        replace hsp:=Lib.hid hsp
        replace hcat:=Lib.hid hcat
        replace hk3:=Lib.hid hk3
        replace hy:=Lib.hid hy
        replace hhd:=Lib.hid hhd
        replace hd4:=Lib.hid hd4
        replace hwrap:=Lib.hid hwrap
        replace hx2:=Lib.hid hx2
        replace t3:=Lib.hid t3
        replace hc:=Lib.hid hc
        replace hd:=Lib.hid hd
        clear hno hTe t1 hrv hrz hre hlc hjm hn1 hC hsn zc
        clear R7 hS7 P7 B7
        have tok1 : True:=trivial
        by_cases hT0 : T.length = 0
        · have tT : ((T.length : Int) == 0) = true:=by rw [hT0];rfl
          have hTn : tailL hd0 T = []:=by rw [List.eq_nil_of_length_eq_zero hT0];rfl
          replace hTn:=Lib.hid hTn
          replace hT0:=Lib.hid hT0
          go_wp2_with (first
            | (go_at_call 15;go_must (refine (Tryz.strconv_Itoa x.f0 (by omega) (by omega) _ (tabs_below hT B8.out).p).mono ?_;rintro e w9 ⟨rfl,kk,os,hw9⟩;have D9 : Below (wr.alloc (.cells #[.int .i64 x.f0,.bool x.f1,.slice Ax x.f2.length cx] 48)).heap.size (wr.alloc (.cells #[.int .i64 x.f0,.bool x.f1,.slice Ax x.f2.length cx] 48)) w9:=(by rw [hw9];exact Lib.below_grow _ _ (Nat.le_refl _) _ _);clear hw9;rw [show (⟨(Lib.itoa x.f0).toArray⟩ : ByteArray) = y from hy.out];have P9:=Lib.hid (blk_below P8.out D9);have p9:=cells8 P9.out;have R9:=Lib.hid (Kd.R_below R8.out D9);have S9:=Lib.hid (Kd.S_below S8.out D9);have B9:=Lib.hid (below_step B8.out D9);have z69:=pw_cell_below D9 z6;clear D9 x8 p8))
            | (go_at_call 16;go_must (refine (repeat_sp k3 hk3b _).mono ?_;rintro e w' ⟨rfl,rfl⟩;rw [hsp.out]))
            | (go_at_call 17;go_must (refine (hwrap.out _).mono ?_;rintro e w5 ⟨vT,rfl,RT,hb⟩;obtain ⟨AT,cT,rfl⟩:=Kd.R_slice RT;replace RT:=Lib.hid (Kd.R_lower (Kd.R_newR RT R9.out) B9.out.size);have P5:=Lib.hid (blk_below P9.out hb);have R5:=Lib.hid (Kd.R_below R9.out hb);have S5:=Lib.hid (Kd.S_below S9.out hb);have B5:=Lib.hid (below_step B9.out hb);clear hb p9 P8 P9 R8 R9 S8 S9 B8 B9))
            | ((with_reducible refine gate_builtin (b:=.append) (xs:=#[.tmp 66,.tmp 68]) rfl ?_);go_must (at_builtin;refine Kd.R_append Kd.string (w0:=w) w.heap.size rfl (.tmp 66) (.tmp 68) 25 9 (.string ⟨#[]⟩) 16 rfl Tryz.underlying25 str_info rfl (by decide) (by decide) _ C (sp ++ y ++ (⟨#[46]⟩ : ByteArray)) [.string (sp ++ y ++ (⟨#[46]⟩ : ByteArray))] (fun _=>True) (fun _=>False) rfl ?hx rfl (fun _ hk=>hk.elim) (fun _ _=>trivial) R5.out B5.out (B5.out).size ?aL ?_;(case hx=>first | rfl | (go_simp;done) | (go_simp;rfl));(case aL=>omega);intro v6 w6 R6 hb hg ha;replace R6:=Lib.hid R6;have B6:=Lib.hid hb;have G6:=Lib.hid hg;have H6:=Lib.hid ha;clear hb hg ha)))
          go_hide hQ
          obtain ⟨wo,rfl⟩ : ∃ x,x = w6:=⟨_,rfl⟩
          go_loopw [9,13,72] (fun v9 v13 v72 wi=>∃ (k : Nat) (q : Int) (h : ByteArray) (M : List ByteArray),v13 = .string h ∧ v72 = .int .i64 q ∧ Hid (q = k ∧ k ≤ T.length ∧ h.size = 4) ∧ Hid (M ++ tailL h (T.drop k) = F) ∧ Hid (wi.heap[w.heap.size]? = some (.cells #[.string title,.int .i64 H,.int .i64 W,.slice A2 bl.length c2,.slice A3 ri.length c3,.slice A4 be.length c4,.slice A5 cells.length c5,.slice (some ad6) clues.length c6] 27 (0,0))) ∧ Hid (Kd.R Kd.string 9 wi w.heap.size (fun _=>True) v9 M) ∧ Hid (Kd.R Kd.string 9 wi w.heap.size (fun k_=>True ∧ some k_ ≠ v9.ownBlock) (.slice AT T.length cT) T) ∧ Hid (Kd.S k48 48 wi w.heap.size (fun _=>True) (.slice (some ad) L.length cL) L) ∧ Hid (Below w.heap.size w wi)) (fun _ _ v72 _=>T.length - (intOf v72).toNat)
          case atStart=>exact ⟨0,0,_,_,rfl,rfl,Lib.hid ⟨rfl,Nat.zero_le _,by rw [← hcat.out];exact hd4.out⟩,Lib.hid (by rw [List.drop_zero,← hcat.out,hTn.out,List.append_nil];have h1:=hsn2.out;rw [if_pos hT0.out,hTn.out,List.append_nil] at h1;rw [h1]),Lib.hid (blk_grown P5.out G6.out (Kd.R_ne R5.out P5.out (by decide))),R6,Lib.hid (Kd.R_after RT.out G6.out H6.out),Lib.hid (Kd.S_over' S5.out (Kd.R_typed R5.out) (by decide) G6.out),B6⟩
          case round =>
            clear P5 R5 RT S5 B5 R6 B6 G6 H6
            obtain ⟨k,q,h,M,rfl,rfl,hq,hM,P5,R5,RT,S5,B5⟩:=hrel
            have hq0 : 0 ≤ q:=by have:=hq.out;omega
            by_cases hk : k < T.length
            · have tk : decide (q < (T.length : Int)) = true:=decide_eq_true (by have:=hq.out;omega)
              have hq1 : q < (T.length : Int):=by have:=hq.out;omega
              have hM2:=hM.out
              rw [tailL_drop hk,← hq.out.1] at hM2
              obtain ⟨x2,hxx⟩ : ∃ s,rdOf ByteArray.empty T q = s:=⟨_,rfl⟩
              obtain ⟨adt,eAT,zt⟩:=Kd.at_string (Kd.R_reads' RT.out).2.2 q hq0 hq1
              cases eAT
              have hxm : x2 ∈ T:=by rw [← hxx];exact prd_mem (by have:=hq.out;omega)
              rw [hxx] at hM2 zt
              have hxz : x2.size ≤ 3000:=t3.out x2 hxm
              have hMl : M.length ≤ 2000000:=by
                have h1:=congrArg List.length hM2
                rw [List.length_append] at h1
                omega
              have hq2 : q ≤ 2000000:=by have h2:=congrArg List.length hM2;rw [List.length_append,List.length_cons,tailL_length,List.length_drop] at h2;have:=hq.out;omega
              have hhs : h.size = 4:=hq.out.2.2
              have big3 : ¬ 9223372036854775807 < h.size + 1:=by omega
              have big4 : ¬ 9223372036854775807 < h.size + 1 + x2.size:=by omega
              replace hhs:=Lib.hid hhs
              replace hxx:=Lib.hid hxx
              have hM3:=Lib.hid (show (M ++ [h ++ ⟨#[32]⟩ ++ x2]) ++ tailL (spB 4) (T.drop (k + 1)) = F by rw [List.append_assoc];exact hM2)
              clear hM hM2 hxm
              obtain ⟨A9,c9,rfl⟩:=Kd.R_slice R5.out
              have eqq : wrap64 (q + 1) = q + 1:=w64 (by omega) (by omega)
              go_wp2_with (first
                | ((with_reducible refine gate_builtin (b:=.append) (xs:=#[.tmp 76,.tmp 81]) rfl ?_);go_must (at_builtin;refine Kd.R_append Kd.string (w0:=w) w.heap.size rfl (.tmp 76) (.tmp 81) 25 9 (.string ⟨#[]⟩) 16 rfl Tryz.underlying25 str_info rfl (by decide) (by decide) _ M (h ++ (⟨#[32]⟩ : ByteArray) ++ x2) [.string (h ++ (⟨#[32]⟩ : ByteArray) ++ x2)] (fun _=>True) (fun _=>False) rfl ?hx rfl (fun _ hk=>hk.elim) (fun _ _=>trivial) R5.out B5.out (B5.out).size ?aL ?_;(case hx=>first | rfl | (go_simp;done) | (go_simp;rfl));(case aL=>omega);intro v7 w7 R7 hb hg ha;replace R7:=Lib.hid R7;have B7:=Lib.hid hb;have G7:=Lib.hid hg;have H7:=Lib.hid ha;clear hb hg ha)))
              refine ⟨⟨k + 1,q + 1,⟨#[32,32,32,32]⟩,M ++ [h ++ ⟨#[32]⟩ ++ x2],rfl,rfl,Lib.hid ⟨by have:=hq.out;omega,hk,rfl⟩,Lib.hid (by rw [← sp4_lit];exact hM3.out),Lib.hid (blk_grown P5.out G7.out (Kd.R_ne R5.out P5.out (by decide))),R7,Lib.hid (Kd.R_after RT.out G7.out H7.out),Lib.hid (Kd.S_over' S5.out (Kd.R_typed R5.out) (by decide) G7.out),B7⟩,?_⟩
              simp only [intOf];have:=hq.out;omega
            · have tk : decide (q < (T.length : Int)) = false:=decide_eq_false (by have:=hq.out;omega)
              have hE : M = F:=by
                have h1:=hM.out
                rw [List.drop_of_length_le (by omega)] at h1
                simpa [tailL] using h1
              replace hE:=Lib.hid hE
              subst hQ
              go_wp2
              refine ⟨⟨m + 1,j + 1,congrArg (Value.int .i64) ej,Lib.hid ⟨by have:=hj.out;omega,hlt⟩,P5,Lib.hid (by rw [hF.out,← hE.out];exact R5.out),S5,B5⟩,?_⟩
              simp only [intOf];have:=hj.out;omega
        · have tT : ((T.length : Int) == 0) = false:=by rw [beq_eq_false_iff_ne];omega
          go_wp2_with (first
            | (go_at_call 15;go_must (refine (Tryz.strconv_Itoa x.f0 (by omega) (by omega) _ (tabs_below hT B8.out).p).mono ?_;rintro e w9 ⟨rfl,kk,os,hw9⟩;have D9 : Below (wr.alloc (.cells #[.int .i64 x.f0,.bool x.f1,.slice Ax x.f2.length cx] 48)).heap.size (wr.alloc (.cells #[.int .i64 x.f0,.bool x.f1,.slice Ax x.f2.length cx] 48)) w9:=(by rw [hw9];exact Lib.below_grow _ _ (Nat.le_refl _) _ _);clear hw9;rw [show (⟨(Lib.itoa x.f0).toArray⟩ : ByteArray) = y from hy.out];have P9:=Lib.hid (blk_below P8.out D9);have p9:=cells8 P9.out;have R9:=Lib.hid (Kd.R_below R8.out D9);have S9:=Lib.hid (Kd.S_below S8.out D9);have B9:=Lib.hid (below_step B8.out D9);have z69:=pw_cell_below D9 z6;clear D9 x8 p8))
            | (go_at_call 16;go_must (refine (repeat_sp k3 hk3b _).mono ?_;rintro e w' ⟨rfl,rfl⟩;rw [hsp.out]))
            | (go_at_call 17;go_must (refine (hwrap.out _).mono ?_;rintro e w5 ⟨vT,rfl,RT,hb⟩;obtain ⟨AT,cT,rfl⟩:=Kd.R_slice RT;replace RT:=Lib.hid (Kd.R_lower (Kd.R_newR RT R9.out) B9.out.size);have P5:=Lib.hid (blk_below P9.out hb);have R5:=Lib.hid (Kd.R_below R9.out hb);have S5:=Lib.hid (Kd.S_below S9.out hb);have B5:=Lib.hid (below_step B9.out hb);clear hb p9 P8 P9 R8 R9 S8 S9 B8 B9)))
          go_hide hQ
          obtain ⟨wo,rfl⟩ : ∃ x,x = w5:=⟨_,rfl⟩
          go_loopw [9,13,72] (fun v9 v13 v72 wi=>∃ (k : Nat) (q : Int) (h : ByteArray) (M : List ByteArray),v13 = .string h ∧ v72 = .int .i64 q ∧ Hid (q = k ∧ k ≤ T.length ∧ h.size = 4) ∧ Hid (M ++ tailL h (T.drop k) = F) ∧ Hid (wi.heap[w.heap.size]? = some (.cells #[.string title,.int .i64 H,.int .i64 W,.slice A2 bl.length c2,.slice A3 ri.length c3,.slice A4 be.length c4,.slice A5 cells.length c5,.slice (some ad6) clues.length c6] 27 (0,0))) ∧ Hid (Kd.R Kd.string 9 wi w.heap.size (fun _=>True) v9 M) ∧ Hid (Kd.R Kd.string 9 wi w.heap.size (fun k_=>True ∧ some k_ ≠ v9.ownBlock) (.slice AT T.length cT) T) ∧ Hid (Kd.S k48 48 wi w.heap.size (fun _=>True) (.slice (some ad) L.length cL) L) ∧ Hid (Below w.heap.size w wi)) (fun _ _ v72 _=>T.length - (intOf v72).toNat)
          case atStart=>exact ⟨0,0,_,_,rfl,rfl,Lib.hid ⟨rfl,Nat.zero_le _,by rw [← hcat.out];exact hd4.out⟩,Lib.hid (by rw [List.drop_zero,← hcat.out];have h1:=hsn2.out;rw [if_neg hT0,List.nil_append] at h1;exact h1.symm),P5,R5,RT,S5,B5⟩
          case round =>
            clear P5 R5 RT S5 B5
            obtain ⟨k,q,h,M,rfl,rfl,hq,hM,P5,R5,RT,S5,B5⟩:=hrel
            have hq0 : 0 ≤ q:=by have:=hq.out;omega
            by_cases hk : k < T.length
            · have tk : decide (q < (T.length : Int)) = true:=decide_eq_true (by have:=hq.out;omega)
              have hq1 : q < (T.length : Int):=by have:=hq.out;omega
              have hM2:=hM.out
              rw [tailL_drop hk,← hq.out.1] at hM2
              obtain ⟨x2,hxx⟩ : ∃ s,rdOf ByteArray.empty T q = s:=⟨_,rfl⟩
              obtain ⟨adt,eAT,zt⟩:=Kd.at_string (Kd.R_reads' RT.out).2.2 q hq0 hq1
              cases eAT
              have hxm : x2 ∈ T:=by rw [← hxx];exact prd_mem (by have:=hq.out;omega)
              rw [hxx] at hM2 zt
              have hxz : x2.size ≤ 3000:=t3.out x2 hxm
              have hMl : M.length ≤ 2000000:=by
                have h1:=congrArg List.length hM2
                rw [List.length_append] at h1
                omega
              have hq2 : q ≤ 2000000:=by have h2:=congrArg List.length hM2;rw [List.length_append,List.length_cons,tailL_length,List.length_drop] at h2;have:=hq.out;omega
              have hhs : h.size = 4:=hq.out.2.2
              have big3 : ¬ 9223372036854775807 < h.size + 1:=by omega
              have big4 : ¬ 9223372036854775807 < h.size + 1 + x2.size:=by omega
              replace hhs:=Lib.hid hhs
              replace hxx:=Lib.hid hxx
              have hM3:=Lib.hid (show (M ++ [h ++ ⟨#[32]⟩ ++ x2]) ++ tailL (spB 4) (T.drop (k + 1)) = F by rw [List.append_assoc];exact hM2)
              clear hM hM2 hxm
              obtain ⟨A9,c9,rfl⟩:=Kd.R_slice R5.out
              have eqq : wrap64 (q + 1) = q + 1:=w64 (by omega) (by omega)
              go_wp2_with (first
                | ((with_reducible refine gate_builtin (b:=.append) (xs:=#[.tmp 76,.tmp 81]) rfl ?_);go_must (at_builtin;refine Kd.R_append Kd.string (w0:=w) w.heap.size rfl (.tmp 76) (.tmp 81) 25 9 (.string ⟨#[]⟩) 16 rfl Tryz.underlying25 str_info rfl (by decide) (by decide) _ M (h ++ (⟨#[32]⟩ : ByteArray) ++ x2) [.string (h ++ (⟨#[32]⟩ : ByteArray) ++ x2)] (fun _=>True) (fun _=>False) rfl ?hx rfl (fun _ hk=>hk.elim) (fun _ _=>trivial) R5.out B5.out (B5.out).size ?aL ?_;(case hx=>first | rfl | (go_simp;done) | (go_simp;rfl));(case aL=>omega);intro v7 w7 R7 hb hg ha;replace R7:=Lib.hid R7;have B7:=Lib.hid hb;have G7:=Lib.hid hg;have H7:=Lib.hid ha;clear hb hg ha)))
              refine ⟨⟨k + 1,q + 1,⟨#[32,32,32,32]⟩,M ++ [h ++ ⟨#[32]⟩ ++ x2],rfl,rfl,Lib.hid ⟨by have:=hq.out;omega,hk,rfl⟩,Lib.hid (by rw [← sp4_lit];exact hM3.out),Lib.hid (blk_grown P5.out G7.out (Kd.R_ne R5.out P5.out (by decide))),R7,Lib.hid (Kd.R_after RT.out G7.out H7.out),Lib.hid (Kd.S_over' S5.out (Kd.R_typed R5.out) (by decide) G7.out),B7⟩,?_⟩
              simp only [intOf];have:=hq.out;omega
            · have tk : decide (q < (T.length : Int)) = false:=decide_eq_false (by have:=hq.out;omega)
              have hE : M = F:=by
                have h1:=hM.out
                rw [List.drop_of_length_le (by omega)] at h1
                simpa [tailL] using h1
              replace hE:=Lib.hid hE
              subst hQ
              go_wp2
              refine ⟨⟨m + 1,j + 1,congrArg (Value.int .i64) ej,Lib.hid ⟨by have:=hj.out;omega,hlt⟩,P5,Lib.hid (by rw [hF.out,← hE.out];exact R5.out),S5,B5⟩,?_⟩
              simp only [intOf];have:=hj.out;omega
      · have hd2 : (x.f1 == down) = false:=beq_eq_false_iff_ne.2 hd
        rw [if_neg (by rw [hd2];decide),List.append_nil] at hsn
        replace hsn:=Lib.hid hsn
        replace hd:=Lib.hid hd
        replace hc:=Lib.hid hc
        replace hx2:=Lib.hid hx2
        clear hlc hjm hn1 hC zc R7 hS7 P7 B7
        go_wp2
        refine ⟨⟨m + 1,j + 1,congrArg (Value.int .i64) ej,Lib.hid ⟨by have:=hj.out;omega,hlt⟩,P8,Lib.hid (by rw [hsn.out];exact R8.out),S8,B8⟩,?_⟩
        simp only [intOf];have:=hj.out;omega
    · have tlt : decide (j < (L.length : Int)) = false:=decide_eq_false (by have:=hj.out;omega)
      have hmE : m = L.length:=by have:=hj.out;omega
      have R8:=R7.out
      rw [hmE] at R8
      replace R8:=Lib.hid R8
      clear hmE
      go_wp2
      go_ret2
      exact ⟨_,rfl,R8.out,B7.out⟩
end Go.Proofs.YtpfbcepgmigeiaaGreatDoor.Q
end
section
namespace Go.Proofs.YtpfbcepgmigeiaaGreatDoor.Q
open Go.RowKit Go.Shelf Go.Proofs.YtpfbcepgmigeiaaGreatDoorW.PrintWords Go.Proofs.YtpfbcepgmigeiaaGreatDoorW.PrintLast Go.Proofs.YtpfbcepgmigeiaaGreatDoorS
set_option linter.unusedVariables false
set_option linter.unusedSimpArgs false
theorem dec_in (s : ByteArray) (pos : Nat) (h : pos < s.size) : pos + (Utf8.decode s pos).2 ≤ s.size:=by
  have hsz : (s.extract pos s.size).size = s.size - pos:=by simp
  have e : Utf8.decode (s.extract pos s.size) 0 = Utf8.decode s pos:=by
    rw [Lib.decode_at,Lib.decode_at,hsz,Lib.tail_get!,Lib.tail_get!,Lib.tail_get!,Lib.tail_get!]
    rfl
  have h2:=Lib.width_le (s.extract pos s.size) (by omega)
  rw [e,hsz] at h2
  omega
set_option maxHeartbeats 4000000 in
set_option maxRecDepth 1000000 in
theorem fit2_any {s : ByteArray} {n : Int} (hs : s.size ≤ 1048576) (hn0 : -1048576 ≤ n) (hn : n ≤ 1048576) (w : World) :
    Calls Tryz.prog 90 #[.string s,.int .i64 n] w fun e w'=>e = .returned (.string (ufit s n)) ∧ Below w.heap.size w w':=by
  by_cases h0 : n < 0
  · have hv : ufit s n = ⟨#[]⟩:=by unfold ufit;rw [if_pos h0]
    rw [hv]
    clear hv
    go_enter Tryz.func90,Tryz.ntmps90
    go_wp2
    go_ret
    exact ⟨rfl,Below.refl _ _⟩
  · obtain ⟨V,hV⟩ : ∃ V,ufit s n = V:=⟨_,rfl⟩
    have hVn : fitL (uall s) n = none → V = s:=fun h=>by rw [← hV];unfold ufit;rw [if_neg h0,h]
    have hVs : ∀ k,fitL (uall s) n = some k → V = s.extract 0 k:=fun k h=>by rw [← hV];unfold ufit;rw [if_neg h0,h]
    have hex : s.extract 0 s.size = s:=by simp
    rw [hV]
    clear hV
    replace hVn:=Lib.hid hVn
    replace hVs:=Lib.hid hVs
    replace hex:=Lib.hid hex
    have h0' : 0 ≤ n:=by omega
    go_enter Tryz.func90,Tryz.ntmps90
    go_wp2
    go_loopw [5,6] (fun v5 v6 wr=>∃ (pos f : Nat) (q : Int) (pre : List (Nat × Nat × Nat)),v5 = .int .i64 q ∧ v6 = .int .i64 (pos : Int) ∧ Hid (pos ≤ s.size ∧ s.size ≤ pos + f ∧ pre ++ ulist s f pos = uall s) ∧ Hid (q = wsum pre ∧ fitL pre n = none) ∧ Hid (Below w.heap.size w wr)) (fun _ v6 _=>s.size - (intOf v6).toNat)
    case atStart=>exact ⟨0,s.size,0,[],rfl,rfl,Lib.hid ⟨Nat.zero_le _,by omega,rfl⟩,Lib.hid ⟨rfl,rfl⟩,Lib.hid (Below.refl _ _)⟩
    case round =>
      obtain ⟨pos,f,q,pre,rfl,rfl,hi,hq,hB⟩:=hrel
      have hge:=fitL_none pre n h0' hq.out.2
      have hwb:=wsum_bound pre
      have hq0 : 0 ≤ q:=by have:=hq.out.1;omega
      have hqn : q ≤ n:=by have:=hq.out.1;omega
      by_cases hp : pos < s.size
      · obtain ⟨h1,h2,hd⟩:=hi.out
        obtain ⟨f,rfl⟩ : ∃ f',f = f' + 1:=⟨f - 1,by omega⟩
        have hwd:=width_pos s pos hp
        have hin:=dec_in s pos hp
        rw [ulist_step s f pos hp] at hd
        have hnx:=next_eq2 10 (Nat.le_refl _) s pos hp (by omega)
        have hdl:=decode_le s pos
        have hfs:=fitL_snoc pre (pos,(Utf8.decode s pos).1,(Utf8.decode s pos).2) n hq.out.2
        have hwn:=wsum_snoc pre (pos,(Utf8.decode s pos).1,(Utf8.decode s pos).2)
        obtain ⟨r,hr⟩ : ∃ r : Int,((Utf8.decode s pos).1 : Int) = r:=⟨_,rfl⟩
        obtain ⟨k,hk⟩ : ∃ k : Nat,(Utf8.decode s pos).2 = k:=⟨_,rfl⟩
        have hr0 : -2147483648 ≤ r:=by omega
        have hr1 : r ≤ 2147483647:=by omega
        have hwa:=width2_any r hr0 hr1
        have hu:=uwid_pos r
        simp only [hr] at hfs hwn hnx
        rw [hk] at hnx hin hwd
        obtain ⟨u,hu2⟩ : ∃ u,uwid r = u:=⟨_,rfl⟩
        simp only [hu2] at hfs hwn hwa hu
        rw [← hq.out.1] at hfs
        have hd2 : (pre ++ [(pos,(Utf8.decode s pos).1,(Utf8.decode s pos).2)]) ++ ulist s f (pos + k) = uall s:=by rw [List.append_assoc,← hk];exact hd
        have hfa : ∀ z,fitL (pre ++ [(pos,(Utf8.decode s pos).1,(Utf8.decode s pos).2)]) n = some z → fitL (uall s) n = some z:=fun z hz=>by rw [← hd2];exact fitL_some _ _ _ _ hz
        replace hnx:=Lib.hid hnx
        replace hwa:=Lib.hid hwa
        replace hd2:=Lib.hid hd2
        replace hfa:=Lib.hid hfa
        replace hwn:=Lib.hid hwn
        clear hd hr hu2 hdl
        by_cases hc : n < q + u
        · rw [if_pos (show n - q < u by omega)] at hfs
          have hVE:=Lib.hid (hVs.out pos (hfa.out pos hfs))
          clear hfs
          have hp0 : (0 : Int) ≤ (pos : Int):=Int.natCast_nonneg _
          have hp1 : (pos : Int) ≤ (s.size : Int):=Int.ofNat_le.2 h1
          replace hk:=Lib.hid hk
          go_wp2_with (first
            | (go_at_call 88;go_must (refine (rebusref01_Next.calls _ _ _ _ _ _ hnx.out).mono ?_;rintro e w2 ⟨rfl,hdr⟩;have hb2:=hdr.below;have hB2:=Lib.hid (hB.out.trans (hb2.mono hB.out.size));clear hb2 hdr))
            | (go_at_call 89;have B:=hB2.out;clear hB2;go_must (refine (hwa.out _).mono ?_;rintro e w3 ⟨rfl,hb3⟩;have hB2:=Lib.hid (B.trans (hb3.mono B.size));clear hb3 B)))
          go_ret
          exact ⟨by rw [hVE.out];rfl,hB2.out⟩
        · rw [if_neg (show ¬ n - q < u by omega)] at hfs
          replace hfs:=Lib.hid hfs
          replace hk:=Lib.hid hk
          go_wp2_with (first
            | (go_at_call 88;go_must (refine (rebusref01_Next.calls _ _ _ _ _ _ hnx.out).mono ?_;rintro e w2 ⟨rfl,hdr⟩;have hb2:=hdr.below;have hB2:=Lib.hid (hB.out.trans (hb2.mono hB.out.size));clear hb2 hdr))
            | (go_at_call 89;have B:=hB2.out;clear hB2;go_must (refine (hwa.out _).mono ?_;rintro e w3 ⟨rfl,hb3⟩;have hB2:=Lib.hid (B.trans (hb3.mono B.size));clear hb3 B)))
          refine ⟨⟨pos + k,f,q + u,pre ++ [(pos,(Utf8.decode s pos).1,(Utf8.decode s pos).2)],rfl,?_,Lib.hid ⟨by omega,by omega,hd2.out⟩,Lib.hid ⟨by rw [hwn.out,← hq.out.1],hfs.out⟩,hB2⟩,?_⟩
          · congr 1
          · simp only [intOf];omega
      · have hpE : pos = s.size:=by have:=hi.out;omega
        have hall:=hi.out.2.2
        rw [ulist_end s f pos hp,List.append_nil] at hall
        have hVE:=Lib.hid (hVn.out (by rw [← hall];exact hq.out.2))
        subst hpE
        clear hall
        go_wp2
        go_ret
        exact ⟨by rw [hVE.out];rfl,hB.out⟩
end Go.Proofs.YtpfbcepgmigeiaaGreatDoor.Q
end
