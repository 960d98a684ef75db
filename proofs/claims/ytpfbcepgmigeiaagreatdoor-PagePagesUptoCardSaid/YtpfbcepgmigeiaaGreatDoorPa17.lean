/- PART 17 OF A PROOF: Lean functions, and that the program computes them; written by hand and by a program. Not trusted: Lean checks it. -/
import Derived.Test.YtpfbcepgmigeiaaGreatDoorPa3
import Derived.Test.YtpfbcepgmigeiaaGreatDoorPa6
import Derived.Test.YtpfbcepgmigeiaaGreatDoorPa13
import Derived.Test.YtpfbcepgmigeiaaGreatDoorPa14
import Derived.Test.YtpfbcepgmigeiaaGreatDoorPa15
import Derived.Test.YtpfbcepgmigeiaaGreatDoorPa16
set_option linter.unusedVariables false
set_option linter.unusedSimpArgs false
section
namespace Go.Proofs.YtpfbcepgmigeiaaGreatDoor.Q
open Go.RowKit Go.Shelf Go.Lib Go.Proofs.YtpfbcepgmigeiaaGreatDoorW.PrintWords Go.Proofs.YtpfbcepgmigeiaaGreatDoorW.PrintLast Go.Proofs.YtpfbcepgmigeiaaGreatDoorS
set_option linter.unusedVariables false
set_option linter.unusedSimpArgs false
def fromI : Option Nat → Int
  | none=>-1
  | some a=>a
theorem spans_step {s : ByteArray} {f pos : Nat} {st : Option Nat} {acc : List (Nat × Nat)} (hp : pos < s.size) : spansFromP blk s (f + 1) pos st acc = if blk (Utf8.decode s pos).1 = true then (match st with | some a=>spansFromP blk s f (pos + (Utf8.decode s pos).2) none (acc ++ [(a,pos)]) | none=>spansFromP blk s f (pos + (Utf8.decode s pos).2) none acc) else (match st with | some a=>spansFromP blk s f (pos + (Utf8.decode s pos).2) (some a) acc | none=>spansFromP blk s f (pos + (Utf8.decode s pos).2) (some pos) acc):=by
  cases st <;> simp only [spansFromP,hp,if_true]
set_option maxHeartbeats 8000000 in
set_option maxRecDepth 1000000 in
theorem words2_calls (s : ByteArray) (w : World) (hs : s.size ≤ 1048576) :
    Calls Tryz.prog 55 #[.string s] w fun e w'=>∃ v,e = .returned v ∧ Kd.R Kd.string 9 w' w.heap.size (fun _=>True) v (Lib.goFieldsP blk s) ∧ Below w.heap.size w w':=by
  obtain ⟨ext,hext⟩ : ∃ g : Nat × Nat → ByteArray,(fun x : Nat × Nat=>s.extract x.1 x.2) = g:=⟨_,rfl⟩
  have he : ∀ a b,ext (a,b) = s.extract a b:=fun a b=>by rw [← hext]
  obtain ⟨FS,hFS⟩ : ∃ x,spansFromP blk s s.size 0 none [] = x:=⟨_,rfl⟩
  have hF : Lib.goFieldsP blk s = (closeSpans s FS).map ext:=by unfold goFieldsP spansOfP;rw [hFS,hext]
  rw [hF]
  obtain ⟨cs,hcs⟩ : ∃ x,closeSpans s FS = x:=⟨_,rfl⟩
  rw [hcs]
  clear hF
  replace he:=Lib.hid he
  replace hext:=Lib.hid hext
  replace hFS:=Lib.hid hFS
  replace hcs:=Lib.hid hcs
  go_enter Tryz.func55,Tryz.ntmps55
  go_wp2
  go_loopw [3,4,5] (fun v3 v4 v5 wr=>∃ (pos f : Nat) (q : Int) (st : Option Nat) (acc : List (Nat × Nat)),v4 = .int .i64 q ∧ v5 = .int .i64 (pos : Int) ∧ Hid (pos ≤ s.size ∧ s.size ≤ pos + f ∧ acc.length ≤ pos ∧ ∀ a,st = some a → a ≤ pos) ∧ Hid (q = fromI st) ∧ Hid (spansFromP blk s f pos st acc = FS) ∧ Hid (Kd.R Kd.string 9 wr w.heap.size (fun _=>True) v3 (acc.map ext)) ∧ Hid (Below w.heap.size w wr)) (fun _ _ v5 _=>s.size - (intOf v5).toNat)
  case atStart=>exact ⟨0,s.size,-1,none,[],rfl,rfl,Lib.hid ⟨Nat.zero_le _,by omega,Nat.le_refl _,fun a h=>by cases h⟩,Lib.hid rfl,hFS,Lib.hid (Kd.R_nil _ _ _ _ _),Lib.hid (Below.refl _ _)⟩
  case round =>
    obtain ⟨pos,f,q,st,acc,rfl,rfl,hi,hq,hsp,RA,hB⟩:=hrel
    have hp0 : (0 : Int) ≤ (pos : Int):=Int.natCast_nonneg _
    have hac : acc.length ≤ 1048576:=by have:=hi.out;omega
    by_cases hp : pos < s.size
    · obtain ⟨h1,h2,h3,h4⟩:=hi.out
      obtain ⟨f,rfl⟩ : ∃ f',f = f' + 1:=⟨f - 1,by omega⟩
      have hwd:=width_pos s pos hp
      have hin:=dec_in s pos hp
      have hsp2:=hsp.out
      rw [spans_step hp] at hsp2
      have hnx:=next_eq2 10 (Nat.le_refl _) s pos hp (by omega)
      have hdl:=decode_le s pos
      have hbk : blk (Utf8.decode s pos).1 = (uclass ((Utf8.decode s pos).1 : Int) == 3):=rfl
      obtain ⟨r,hr⟩ : ∃ r : Int,((Utf8.decode s pos).1 : Int) = r:=⟨_,rfl⟩
      obtain ⟨k,hk⟩ : ∃ k : Nat,(Utf8.decode s pos).2 = k:=⟨_,rfl⟩
      have hr0 : -2147483648 ≤ r:=by omega
      have hr1 : r ≤ 2147483647:=by omega
      simp only [hr] at hnx
      rw [hk] at hnx hin hwd hsp2
      rw [hr] at hbk
      obtain ⟨u,hu⟩ : ∃ u,uclass r = u:=⟨_,rfl⟩
      rw [hu] at hbk
      rw [hbk] at hsp2
      have hp1 : (pos : Int) ≤ (s.size : Int):=Int.ofNat_le.2 h1
      have tp : decide ((pos : Int) < (s.size : Int)) = true:=decide_eq_true (by omega)
      replace hnx:=Lib.hid hnx
      replace hu:=Lib.hid hu
      replace hk:=Lib.hid hk
      replace hr:=Lib.hid hr
      clear hsp hbk hdl
      by_cases hb : u = 3
      · have tb : (u == 3) = true:=by rw [hb];rfl
        rw [if_pos tb] at hsp2
        replace hb:=Lib.hid hb
        cases st with
        | none =>
          obtain rfl : q = -1:=hq.out
          replace hsp2:=Lib.hid hsp2
          replace h4:=Lib.hid h4
          go_wp2_with (first
            | (go_at_call 88;go_must (refine (rebusref01_Next.calls _ _ _ _ _ _ hnx.out).mono ?_;rintro e w2 ⟨rfl,hdr⟩;have hb2:=hdr.below;have R2:=Lib.hid (Kd.R_below RA.out hb2);have B2:=Lib.hid (below_step hB.out hb2);clear hb2 hdr))
            | (go_at_call 84;go_must (refine (rebusref02_Class.calls r hr0 hr1 _).mono ?_;rw [hu.out];rintro e w3 ⟨rfl,rfl⟩)))
          refine ⟨⟨pos + k,f,-1,none,acc,rfl,?_,Lib.hid ⟨by omega,by omega,by omega,fun a h=>by cases h⟩,Lib.hid rfl,hsp2,R2,B2⟩,?_⟩
          · congr 1
          · simp only [intOf];omega
        | some a =>
          obtain rfl : q = (a : Int):=hq.out
          have ha : a ≤ pos:=h4 a rfl
          have ha0 : (0 : Int) ≤ (a : Int):=Int.natCast_nonneg _
          have hap : (a : Int) ≤ (pos : Int):=Int.ofNat_le.2 ha
          have ta : decide (0 ≤ (a : Int)) = true:=decide_eq_true ha0
          replace hsp2:=Lib.hid hsp2
          replace h4:=Lib.hid h4
          go_wp2_with (first
            | (go_at_call 88;go_must (refine (rebusref01_Next.calls _ _ _ _ _ _ hnx.out).mono ?_;rintro e w2 ⟨rfl,hdr⟩;have hb2:=hdr.below;have R2:=Lib.hid (Kd.R_below RA.out hb2);have B2:=Lib.hid (below_step hB.out hb2);clear hb2 hdr))
            | (go_at_call 84;go_must (refine (rebusref02_Class.calls r hr0 hr1 _).mono ?_;rw [hu.out];rintro e w3 ⟨rfl,rfl⟩))
            | ((with_reducible refine gate_builtin (b:=.append) (xs:=#[.tmp 23,.tmp 28]) rfl ?_);go_must (at_builtin;refine Kd.R_append Kd.string (w0:=w) w.heap.size rfl (.tmp 23) (.tmp 28) 25 9 (.string ⟨#[]⟩) 16 rfl Tryz.underlying25 str_info rfl (by decide) (by decide) _ (acc.map ext) (s.extract a pos) [.string (s.extract a pos)] (fun _=>True) (fun _=>False) rfl ?hx rfl (fun _ hk=>hk.elim) (fun _ _=>trivial) R2.out B2.out (B2.out).size ?aL ?_;(case hx=>first | rfl | (go_simp;done) | (go_simp;rfl));(case aL=>(rw [List.length_map];omega));intro v7 w7 R7 hb hg ha;replace R7:=Lib.hid R7;have B7:=Lib.hid hb;clear hb hg ha)))
          refine ⟨⟨pos + k,f,-1,none,acc ++ [(a,pos)],rfl,?_,Lib.hid ⟨by omega,by omega,by rw [List.length_append,List.length_singleton];omega,fun a h=>by cases h⟩,Lib.hid rfl,hsp2,Lib.hid (by rw [List.map_append,List.map_cons,List.map_nil,he.out];exact R7.out),B7⟩,?_⟩
          · congr 1
          · simp only [intOf];omega
      · have tb : (u == 3) = false:=by simpa using hb
        rw [if_neg (by rw [tb];decide)] at hsp2
        replace hb:=Lib.hid hb
        cases st with
        | none =>
          obtain rfl : q = -1:=hq.out
          replace hsp2:=Lib.hid hsp2
          replace h4:=Lib.hid h4
          go_wp2_with (first
            | (go_at_call 88;go_must (refine (rebusref01_Next.calls _ _ _ _ _ _ hnx.out).mono ?_;rintro e w2 ⟨rfl,hdr⟩;have hb2:=hdr.below;have R2:=Lib.hid (Kd.R_below RA.out hb2);have B2:=Lib.hid (below_step hB.out hb2);clear hb2 hdr))
            | (go_at_call 84;go_must (refine (rebusref02_Class.calls r hr0 hr1 _).mono ?_;rw [hu.out];rintro e w3 ⟨rfl,rfl⟩)))
          refine ⟨⟨pos + k,f,(pos : Int),some pos,acc,rfl,?_,Lib.hid ⟨by omega,by omega,by omega,fun a h=>by cases h;omega⟩,Lib.hid rfl,hsp2,R2,B2⟩,?_⟩
          · congr 1
          · simp only [intOf];omega
        | some a =>
          obtain rfl : q = (a : Int):=hq.out
          have ha : a ≤ pos:=h4 a rfl
          have ha0 : (0 : Int) ≤ (a : Int):=Int.natCast_nonneg _
          have ta : decide ((a : Int) < 0) = false:=decide_eq_false (by omega)
          replace hsp2:=Lib.hid hsp2
          replace h4:=Lib.hid h4
          go_wp2_with (first
            | (go_at_call 88;go_must (refine (rebusref01_Next.calls _ _ _ _ _ _ hnx.out).mono ?_;rintro e w2 ⟨rfl,hdr⟩;have hb2:=hdr.below;have R2:=Lib.hid (Kd.R_below RA.out hb2);have B2:=Lib.hid (below_step hB.out hb2);clear hb2 hdr))
            | (go_at_call 84;go_must (refine (rebusref02_Class.calls r hr0 hr1 _).mono ?_;rw [hu.out];rintro e w3 ⟨rfl,rfl⟩)))
          refine ⟨⟨pos + k,f,(a : Int),some a,acc,rfl,?_,Lib.hid ⟨by omega,by omega,by omega,fun b h=>by cases h;omega⟩,Lib.hid rfl,hsp2,R2,B2⟩,?_⟩
          · congr 1
          · simp only [intOf];omega
    · have hpE : pos = s.size:=by have:=hi.out;omega
      have tp : decide ((pos : Int) < (s.size : Int)) = false:=decide_eq_false (by omega)
      have hsp2:=hsp.out
      rw [spansFromP_end _ _ _ _ _ _ hp] at hsp2
      have hc2:=hcs.out
      rw [← hsp2] at hc2
      cases st with
      | none =>
        obtain rfl : q = -1:=hq.out
        have hE : acc = cs:=by simpa [closeSpans] using hc2
        replace hE:=Lib.hid hE
        clear hc2 hsp2 hpE
        go_wp2
        go_ret
        exact ⟨_,rfl,by rw [← hE.out];exact RA.out,hB.out⟩
      | some a =>
        obtain rfl : q = (a : Int):=hq.out
        have hE : acc ++ [(a,s.size)] = cs:=by simpa [closeSpans] using hc2
        have ha : a ≤ pos:=hi.out.2.2.2 a rfl
        have ha0 : (0 : Int) ≤ (a : Int):=Int.natCast_nonneg _
        have has : (a : Int) ≤ (s.size : Int):=by omega
        have ta : decide (0 ≤ (a : Int)) = true:=decide_eq_true ha0
        replace hE:=Lib.hid hE
        replace hpE:=Lib.hid hpE
        clear hc2 hsp2
        go_wp2_with (first
          | ((with_reducible refine gate_builtin (b:=.append) (xs:=#[.tmp 38,.tmp 42]) rfl ?_);go_must (at_builtin;refine Kd.R_append Kd.string (w0:=w) w.heap.size rfl (.tmp 38) (.tmp 42) 25 9 (.string ⟨#[]⟩) 16 rfl Tryz.underlying25 str_info rfl (by decide) (by decide) _ (acc.map ext) (s.extract a s.size) [.string (s.extract a s.size)] (fun _=>True) (fun _=>False) rfl ?hx rfl (fun _ hk=>hk.elim) (fun _ _=>trivial) RA.out hB.out (hB.out).size ?aL ?_;(case hx=>first | rfl | (go_simp;done) | (go_simp;rfl));(case aL=>(rw [List.length_map];omega));intro v8 w8 R8 hb hg ha;replace R8:=Lib.hid R8;have B8:=Lib.hid hb;clear hb hg ha)))
        go_ret
        exact ⟨_,rfl,by rw [← hE.out,List.map_append,List.map_cons,List.map_nil,he.out];exact R8.out,B8.out⟩
end Go.Proofs.YtpfbcepgmigeiaaGreatDoor.Q
end
section
namespace Go.Proofs.YtpfbcepgmigeiaaGreatDoor.Q
open Go.RowKit Go.Shelf Go.Proofs.YtpfbcepgmigeiaaGreatDoorW.PrintWords Go.Proofs.YtpfbcepgmigeiaaGreatDoorW.PrintLast Go.Proofs.YtpfbcepgmigeiaaGreatDoorS
set_option linter.unusedVariables false
set_option linter.unusedSimpArgs false
set_option maxHeartbeats 4000000 in
set_option maxRecDepth 1000000 in
theorem piece2_calls {s : ByteArray} (hs : s.size ≤ 1048576) {width : Int} (h0 : 0 ≤ width) (h1 : width ≤ 120) (w : World) :
    Calls Tryz.prog 57 #[.string s,.int .i64 width] w fun e w'=>e = .returned (.string (wpiece s width)) ∧ Below w.heap.size w w':=by
  have hf:=ufit_size s width
  have hw : wpiece s width = if 0 < ucols (ufit s width) then ufit s width else ufit s 2:=rfl
  obtain ⟨p,hp⟩ : ∃ p,ufit s width = p:=⟨_,rfl⟩
  have hfit:=fun w=>fit2_any (n:=width) hs (by omega) (by omega) w
  rw [hp] at hw hf
  simp only [hp] at hfit
  obtain ⟨c,hc⟩ : ∃ c,ucols p = c:=⟨_,rfl⟩
  have hcol:=fun w=>columns2_any p w (by omega)
  rw [hc] at hw
  simp only [hc] at hcol
  have hfit2:=fun w=>fit2_any (s:=s) (n:=2) hs (by omega) (by omega) w
  have B:=Below.refl w.heap.size w
  replace B:=Lib.hid B
  replace hfit:=Lib.hid hfit
  replace hfit2:=Lib.hid hfit2
  replace hcol:=Lib.hid hcol
  clear hp hc
  have tok1 : True:=trivial
  by_cases h : 0 < c
  · rw [if_pos h] at hw
    have hE:=Lib.hid hw
    clear hw
    go_enter Tryz.func57,Tryz.ntmps57
    go_wp2_with (first
      | (go_at_call 90;go_must (refine (hfit.out _).mono ?_;rintro e w3 ⟨rfl,hb3⟩;have B2:=Lib.hid (below_step B.out hb3);clear hb3))
      | (go_at_call 56;go_must (refine (hcol.out _).mono ?_;rintro e w4 ⟨rfl,hb4⟩;have B3:=Lib.hid (below_step B2.out hb4);clear hb4)))
    go_ret
    exact ⟨by rw [hE.out];rfl,B3.out⟩
  · rw [if_neg h] at hw
    have hE:=Lib.hid hw
    clear hw
    go_enter Tryz.func57,Tryz.ntmps57
    go_wp2_with (first
      | (go_at_call 90;have tq:=tok1;go_must (clear tq tok1;refine (hfit.out _).mono ?_;rintro e w3 ⟨rfl,hb3⟩;have B2:=Lib.hid (below_step B.out hb3);clear hb3))
      | (go_at_call 56;go_must (refine (hcol.out _).mono ?_;rintro e w4 ⟨rfl,hb4⟩;have B3:=Lib.hid (below_step B2.out hb4);clear hb4))
      | (go_at_call 90;go_must (refine (hfit2.out _).mono ?_;rintro e w5 ⟨rfl,hb5⟩;have B4:=Lib.hid (below_step B3.out hb5);clear hb5)))
    go_ret
    exact ⟨by rw [hE.out];rfl,B4.out⟩
end Go.Proofs.YtpfbcepgmigeiaaGreatDoor.Q
end
section
namespace Go.Proofs.YtpfbcepgmigeiaaGreatDoor.Q
open Go.RowKit Go.Shelf Go.Lib Go.Proofs.YtpfbcepgmigeiaaGreatDoorW.PrintWords Go.Proofs.YtpfbcepgmigeiaaGreatDoorW.PrintLast Go.Proofs.YtpfbcepgmigeiaaGreatDoorS
set_option linter.unusedVariables false
set_option linter.unusedSimpArgs false
def strSz : Value → Nat
  | .string s=>s.size
  | _=>0
theorem wlast_snoc (M : List ByteArray) (x : ByteArray) : wlast (M ++ [x]) = x:=by unfold wlast;simp [List.getD_eq_getElem?_getD]
set_option maxHeartbeats 8000000 in
set_option maxRecDepth 1000000 in
theorem wrap2_calls {rs : List Nat} (hv : vr rs) (hz : (en rs).length ≤ 960) {width : Int} (h5 : 5 ≤ width) (h120 : width ≤ 120) (w : World) :
    Calls Tryz.prog 21 #[.string (eb rs),.int .i64 width] w fun e w'=>∃ v,e = .returned (.tuple #[v,.int .i64 0]) ∧ Kd.R Kd.string 9 w' w.heap.size (fun _=>True) v (wwL (eb rs) width) ∧ Below w.heap.size w w':=by
  obtain ⟨B,hB1,hB2,hB3⟩:=fields_en hv
  obtain ⟨FL,i1,-,-,-⟩:=wgo_en h5 B [] false hB3 (fun x hx=>by cases hx) (fun h=>by cases h)
  have hF : wwL (eb rs) width = FL.map eb:=by unfold wwL wwrap;rw [hB1,show ([] : List ByteArray) = ([] : List (List Nat)).map eb from rfl,i1];rfl
  rw [hF]
  clear hF
  have hsz : (eb rs).size ≤ 960:=by rw [eb_size];exact hz
  have hBl : (en B.flatten).length ≤ 960:=by rw [hB2];exact Nat.le_trans (nb_length rs) hz
  have hwd:=fun w=>words2_calls (eb rs) w (by omega)
  rw [hB1] at hwd
  obtain ⟨S,hS⟩ : ∃ S,eb rs = S:=⟨_,rfl⟩
  simp only [hS] at hwd hsz ⊢
  obtain ⟨FB,hFB⟩ : ∃ FB,FL.map eb = FB:=⟨_,rfl⟩
  rw [hFB] at i1 ⊢
  have hBlen : B.length ≤ 960:=by
    have h1 : ∀ (l : List (List Nat)),(∀ x ∈ l,okW x) → l.length ≤ (en l.flatten).length:=by
      intro l
      induction l with
      | nil=>intro _;exact Nat.zero_le _
      | cons x l ih =>
        intro h
        have h2:=ih (fun y hy=>h y (List.mem_cons_of_mem _ hy))
        have h3:=List.length_pos_iff.2 (h x (List.mem_cons_self ..)).1
        have h4:=en_length x
        rw [List.flatten_cons,en_append,List.length_append,List.length_cons]
        omega
    have:=h1 B hB3
    omega
  clear hS hFB hB1 hB2 hv hz
  replace hwd:=Lib.hid hwd
  replace i1:=Lib.hid i1
  replace hB3:=Lib.hid hB3
  replace hBl:=Lib.hid hBl
  have hBm : (B.map eb).length = B.length:=List.length_map ..
  replace hBm:=Lib.hid hBm
  go_enter Tryz.func21,Tryz.ntmps21
  go_wp2_with (go_at_call 55;go_must (refine (hwd.out _).mono ?_;rintro e w3 ⟨vW,rfl,RW,hb3⟩;obtain ⟨AW,cW,rfl⟩:=Kd.R_slice RW;rw [hBm.out] at RW ⊢;replace RW:=Lib.hid RW;have hB30:=Lib.hid hb3;clear hb3))
  go_loopw [6,7,8,10] (fun v6 v7 v8 v10 wr=>∃ (i : Nat) (q : Int) (M : List ByteArray) (ln : ByteArray) (L : List (List Nat)) (op : Bool),v7 = .string ln ∧ v8 = .bool op ∧ v10 = .int .i64 q ∧ Hid (q = i ∧ i ≤ B.length) ∧ Hid (M ++ (if op = true then [ln] else []) = L.map eb) ∧ Hid (wgo width ((B.drop i).map eb) (L.map eb) op = some FB) ∧ Hid ((∀ x ∈ L,vr x ∧ nsum x ≤ width) ∧ (op = true → L ≠ []) ∧ wm L + 3 * (en (B.drop i).flatten).length ≤ 3000) ∧ Hid (Kd.R Kd.string 9 wr w3.heap.size (fun _=>True) v6 M) ∧ Hid (Below w3.heap.size w3 wr)) (fun _ _ _ v10 _=>B.length - (intOf v10).toNat)
  case atStart=>exact ⟨0,0,[],⟨#[]⟩,[],false,rfl,rfl,rfl,Lib.hid ⟨rfl,Nat.zero_le _⟩,Lib.hid rfl,i1,Lib.hid ⟨(fun x hx=>by cases hx),(fun h=>by cases h),by have:=hBl.out;rw [List.drop_zero];simp only [wm];omega⟩,Lib.hid (Kd.R_nil _ _ _ _ _),Lib.hid (Below.refl _ _)⟩
  case round =>
    obtain ⟨i,q,M,ln,L,op,rfl,rfl,rfl,hq,hML,hgo,hL,RL,hB⟩:=hrel
    have hMl : M.length ≤ 3000:=by
      have h1:=congrArg List.length hML.out
      have h2:=wm_length L
      have:=hL.out.2.2
      rw [List.length_append,List.length_map] at h1
      omega
    by_cases hlt : i < B.length
    rotate_left
    · have tge : decide (q < (B.length : Int)) = false:=decide_eq_false (by have:=hq.out;omega)
      have hgo2:=hgo.out
      rw [List.drop_of_length_le (by omega)] at hgo2
      have hE:=(show L.map eb = FB from Option.some.inj hgo2)
      rw [← hML.out] at hE
      clear hgo2
      cases op with
      | false =>
        rw [if_neg (by decide),List.append_nil] at hE
        replace hE:=Lib.hid hE
        go_wp2
        go_ret2
        refine ⟨_,rfl,?_,below_step hB30.out hB.out⟩
        rw [← hE.out]
        exact Kd.R_lower RL.out hB30.out.size
      | true =>
        rw [if_pos rfl] at hE
        replace hE:=Lib.hid hE
        go_wp2_with (first
          | ((with_reducible refine gate_builtin (b:=.append) (xs:=#[.tmp 73,.tmp 75]) rfl ?_);go_must (at_builtin;refine Kd.R_append Kd.string (w0:=w3) w3.heap.size rfl (.tmp 73) (.tmp 75) 25 9 (.string ⟨#[]⟩) 16 rfl Tryz.underlying25 str_info rfl (by decide) (by decide) _ M ln [.string ln] (fun _=>True) (fun _=>False) rfl ?hx rfl (fun _ hk=>hk.elim) (fun _ _=>trivial) RL.out hB.out (hB.out).size ?aL ?_;(case hx=>first | rfl | (go_simp;done) | (go_simp;rfl));(case aL=>omega);intro v6 w6 R6 hb _ _;replace R6:=Lib.hid R6;have B6:=Lib.hid hb;clear hb)))
        go_ret2
        refine ⟨_,rfl,?_,below_step hB30.out B6.out⟩
        rw [← hE.out]
        exact Kd.R_lower R6.out hB30.out.size
    · obtain ⟨bW,hbW⟩ : ∃ b,B[i] = b:=⟨_,rfl⟩
      have hbk : okW bW:=hB3.out _ (by rw [← hbW];exact List.getElem_mem hlt)
      have hdr : B.drop i = bW :: B.drop (i + 1):=by rw [List.drop_eq_getElem_cons hlt,hbW]
      have hq0 : 0 ≤ q:=by have:=hq.out;omega
      have hq1 : q < (B.length : Int):=by have:=hq.out;omega
      obtain ⟨ad,eA,zr⟩:=Kd.at_string (Kd.R_reads' (Kd.R_below RW.out hB.out)).2.2 q hq0 (by rw [hBm.out];exact hq1)
      cases eA
      have er : rdOf ByteArray.empty (B.map eb) q = eb bW:=by
        unfold rdOf
        rw [List.getD_eq_getElem?_getD,show q.toNat = i by have:=hq.out;omega,List.getElem?_map,List.getElem?_eq_getElem hlt,hbW]
        rfl
      rw [er] at zr
      have hgo2:=hgo.out
      have hL2:=hL.out
      rw [hdr] at hgo2 hL2
      rw [List.flatten_cons,en_append,List.length_append] at hL2
      obtain ⟨L2,o2,s1,s2,s3,-,s5⟩:=wstep_en h5 hL2.1 hL2.2.1 hbk
      have hgo3:=Lib.hid (wstep_go hgo2 s1)
      have hL3:=Lib.hid (show (∀ x ∈ L2,vr x ∧ nsum x ≤ width) ∧ (o2 = true → L2 ≠ []) ∧ wm L2 + 3 * (en (B.drop (i + 1)).flatten).length ≤ 3000 from ⟨s2,s3,by have:=hL2.2.2;omega⟩)
      have hw2 : wm L2 ≤ 3000:=by have:=hL3.out;omega
      have hbx:=Lib.hid (show ucols (eb bW) = nsum bW ∧ vr bW ∧ (en bW).length ≤ 3000 from ⟨ucols_en hbk.2.1,hbk.2.1,by have:=hL2.2.2;omega⟩)
      have hLl : L.length ≤ 3000:=by have h1:=wm_length L;have:=hL2.2.2;omega
      have hbz : (eb bW).size ≤ 1000:=by rw [eb_size];have:=hL2.2.2;omega
      obtain ⟨wb,hwb⟩ : ∃ x,eb bW = x:=⟨_,rfl⟩
      rw [hwb] at s1 zr hbz hbx
      have hub:=ucols_bound wb
      have hcol:=fun w=>columns2_any wb w (by omega)
      obtain ⟨cb,hcb⟩ : ∃ x,ucols wb = x:=⟨_,rfl⟩
      simp only [hcb] at hcol
      rw [hcb] at hub hbx
      have hcb0 : 0 ≤ cb:=hub.1
      have hcb1 : cb ≤ 6000:=by omega
      have s1b:=s1
      have ewi : wrap64 (q + 1) = q + 1:=w64 (by omega) (by omega)
      have tlt : decide (q < (B.length : Int)) = true:=decide_eq_true hq1
      have hLk:=Lib.hid hL2
      clear hub hL2 hgo2 hdr er hgo hL s1 s2 s3 s5 hbk hbW
      replace hwb:=Lib.hid hwb
      replace hcol:=Lib.hid hcol
      cases op with
      | false =>
        have hM0:=hML.out
        rw [if_neg (by decide),List.append_nil] at hM0
        replace hM0:=Lib.hid hM0
        unfold wstep at s1b
        rw [if_neg (fun h=>by cases h.1)] at s1b
        cases hps0 : wpieces width wb.size wb (ucols wb) with
        | none=>rw [hps0] at s1b;cases s1b
        | some pr =>
          obtain ⟨ps,r⟩:=pr
          rw [hps0] at s1b
          rw [hcb] at hps0
          replace s1b : (if r.size = 0 then some (L.map eb ++ ps,false) else some (L.map eb ++ ps ++ [r],true)) = some (L2.map eb,o2):=s1b
          have hps:=Lib.hid hps0
          clear hps0
          have hTl:=Lib.hid (show (L.map eb ++ ps).length ≤ 6000 by
            have h1:=wm_length L2
            by_cases hr0 : r.size = 0
            · rw [if_pos hr0] at s1b
              have:=congrArg List.length (Prod.mk.inj (Option.some.inj s1b)).1
              simp only [List.length_map,List.length_append] at this ⊢
              omega
            · rw [if_neg hr0] at s1b
              have:=congrArg List.length (Prod.mk.inj (Option.some.inj s1b)).1
              simp only [List.length_map,List.length_append,List.length_singleton] at this ⊢
              omega)
          replace s1b:=Lib.hid s1b
          replace hcb:=Lib.hid hcb
          go_wp2
          go_hide hQ
          obtain ⟨wo,rfl⟩ : ∃ x,x = wr:=⟨_,rfl⟩
          go_loopw [6,11] (fun v6 v11 wi=>∃ (f : Nat) (M PS : List ByteArray) (x : List Nat),v11 = .string (eb x) ∧ Hid (vr x ∧ (en x).length ≤ 3000) ∧ Hid (wpieces width f (eb x) (nsum x) = some (PS,r)) ∧ Hid (M ++ PS = L.map eb ++ ps) ∧ Hid (Kd.R Kd.string 9 wi w3.heap.size (fun _=>True) v6 M) ∧ Hid (Below w3.heap.size w3 wi)) (fun _ v11 _=>strSz v11)
          case atStart=>exact ⟨wb.size,L.map eb,ps,bW,by rw [hwb.out],Lib.hid ⟨hbx.out.2.1,hbx.out.2.2⟩,by rw [hwb.out,← hbx.out.1];exact hps,Lib.hid rfl,by rw [← hM0.out];exact RL,by exact hB⟩
          case round =>
            obtain ⟨f,M,PS,x,rfl,hlx,hwp,hMP,RM,hBi⟩:=hrel
            have hxz : (eb x).size ≤ 3000:=by rw [eb_size];exact hlx.out.2
            obtain ⟨A7,c7,rfl⟩:=Kd.R_slice RM.out
            have hMl : M.length ≤ 6000:=by
              have h1:=congrArg List.length hMP.out
              have h2:=hTl.out
              rw [List.length_append] at h1
              omega
            have hcol3:=fun w=>columns2_any (eb x) w (by omega)
            simp only [ucols_en hlx.out.1] at hcol3
            have hxb:=nsum_pos x
            obtain ⟨nx,hnx⟩ : ∃ y,nsum x = y:=⟨_,rfl⟩
            simp only [hnx] at hcol3
            by_cases hlw : width < nx
            · rw [hnx] at hwp
              obtain ⟨f',PS2,hPS,hrec⟩:=wpieces_more hlw hwp.out
              obtain ⟨a,c,hac,e1,ha1,hane,-,hcut⟩:=wpiece_en (rs:=x) hlx.out.1 h5 (by omega)
              have hva : vr a ∧ vr c:=by have h:=hlx.out.1;rw [hac] at h;exact vr_append h
              have hcn : nsum x = nsum a + nsum c:=by rw [hac,nsum_append]
              have hca:=ucols_en hva.1
              have hcs : (en x).length = (en a).length + (en c).length:=by rw [hac,en_append,List.length_append]
              have hal:=en_length a
              have hal2:=List.length_pos_iff.2 hane
              have hpc:=fun w=>piece2_calls (s:=eb x) (width:=width) (by omega) (by omega) h120 w
              have haz : (eb a).size ≤ (eb x).size:=by rw [eb_size,eb_size];omega
              rw [e1] at hPS hrec
              rw [hcut] at hrec
              simp only [e1] at hpc
              rw [hca,show nx - nsum a = nsum c by omega] at hrec
              rw [hPS] at hMP
              have hM2:=Lib.hid (show (M ++ [eb a]) ++ PS2 = L.map eb ++ ps by rw [List.append_assoc];exact hMP.out)
              have hlx2:=Lib.hid (show vr c ∧ (en c).length ≤ 3000 from ⟨hva.2,by have:=hlx.out;omega⟩)
              have hsm : (eb c).size < (eb x).size:=by rw [eb_size,eb_size];omega
              obtain ⟨pa,hpa⟩ : ∃ y,eb a = y:=⟨_,rfl⟩
              rw [hpa] at hM2 haz
              simp only [hpa] at hpc
              obtain ⟨px,hpx⟩ : ∃ y,eb x = y:=⟨_,rfl⟩
              obtain ⟨pc,hpc2⟩ : ∃ y,eb c = y:=⟨_,rfl⟩
              rw [hpx] at haz hxz hcut hsm ⊢
              rw [hpa,hpc2] at hcut
              rw [hpc2] at hsm
              simp only [hpx] at hpc hcol3
              replace hrec:=Lib.hid hrec
              replace hpc:=Lib.hid hpc
              replace hcol3:=Lib.hid hcol3
              replace hcut:=Lib.hid hcut
              replace hpc2:=Lib.hid hpc2
              have twl : decide (width < nx) = true:=decide_eq_true hlw
              clear hxb hPS hac e1 hva hcn hca hcs hnx hpa hpx hwp hMP hlx hal hal2 hane ha1
              go_wp2_with (first
                | (go_at_call 56;go_must (refine (hcol3.out _).mono ?_;rintro e wq ⟨rfl,hb⟩;have Rq:=Lib.hid (Kd.R_below RM.out hb);have Bq:=Lib.hid (below_step hBi.out hb);clear hb))
                | (go_at_call 57;go_must (refine (hpc.out _).mono ?_;rintro e wp ⟨rfl,hb⟩;have Rp:=Lib.hid (Kd.R_below Rq.out hb);have Bp:=Lib.hid (below_step Bq.out hb);clear hb))
                | ((with_reducible refine gate_builtin (b:=.append) (xs:=#[.tmp 61,.tmp 63]) rfl ?_);go_must (at_builtin;refine Kd.R_append Kd.string (w0:=w3) w3.heap.size rfl (.tmp 61) (.tmp 63) 25 9 (.string ⟨#[]⟩) 16 rfl Tryz.underlying25 str_info rfl (by decide) (by decide) _ M pa [.string pa] (fun _=>True) (fun _=>False) rfl ?hx rfl (fun _ hk=>hk.elim) (fun _ _=>trivial) Rp.out Bp.out (Bp.out).size ?aL ?_;(case hx=>first | rfl | (go_simp;done) | (go_simp;rfl));(case aL=>omega);intro v8 w8 R8 hb _ _;replace R8:=Lib.hid R8;have B8:=Lib.hid hb;clear hb)))
              refine ⟨⟨f',M ++ [pa],PS2,c,by rw [hcut.out,hpc2.out],hlx2,hrec,hM2,R8,B8⟩,?_⟩
              rw [hcut.out]
              exact hsm
            · rw [hnx] at hwp
              obtain ⟨hP0,hr⟩:=wpieces_done hlw hwp.out
              have hM3:=hMP.out
              rw [hP0,List.append_nil] at hM3
              have twl : decide (width < nx) = false:=decide_eq_false hlw
              have hs2:=s1b.out
              rw [← hM3] at hs2
              rw [hr] at hs2
              obtain ⟨px,hpx⟩ : ∃ y,eb x = y:=⟨_,rfl⟩
              rw [hpx] at hs2 hxz ⊢
              simp only [hpx] at hcol3
              replace hcol3:=Lib.hid hcol3
              clear hP0 hMP hwp hr hlx hxb hTl hnx
              by_cases hr0 : px.size = 0
              · rw [if_pos hr0] at hs2
                obtain ⟨u1,u2⟩:=Prod.mk.inj (Option.some.inj hs2)
                have hx1 : x = []:=eb_size0.1 (by rw [hpx];exact hr0)
                have hx0 : px = ⟨#[]⟩:=by rw [← hpx,hx1];rfl
                subst hx0
                subst u2
                replace u1:=Lib.hid u1
                clear hpx hs2 hM3
                subst hQ
                go_wp2_with (first
                  | (go_at_call 56;go_must (refine (hcol3.out _).mono ?_;rintro e wq ⟨rfl,hb⟩;have Rq:=Lib.hid (Kd.R_below RM.out hb);have Bq:=Lib.hid (below_step hBi.out hb);clear hb)))
                refine ⟨⟨i + 1,q + 1,M,⟨#[]⟩,L2,false,rfl,rfl,(by first | rfl | exact congrArg (Value.int .i64) ewi),Lib.hid ⟨by have:=hq.out;omega,hlt⟩,Lib.hid (by rw [if_neg (by decide),List.append_nil];exact u1.out),hgo3,Lib.hid ⟨hL3.out.1,fun h=>(by first | exact hL3.out.2.1 h | exact hL3.out.2.1 trivial | cases h),hL3.out.2.2⟩,Rq,Bq⟩,?_⟩
                simp only [intOf];have:=hq.out;omega
              · rw [if_neg hr0] at hs2
                obtain ⟨u1,u2⟩:=Prod.mk.inj (Option.some.inj hs2)
                subst u2
                have hne : px ≠ ⟨#[]⟩:=fun h=>hr0 (by rw [h];rfl)
                have hnb : px.toList.isEmpty = false:=nonempty_list hne
                replace u1:=Lib.hid u1
                clear hpx hs2 hM3 hr0
                subst hQ
                go_wp2_with (first
                  | (go_at_call 56;go_must (refine (hcol3.out _).mono ?_;rintro e wq ⟨rfl,hb⟩;have Rq:=Lib.hid (Kd.R_below RM.out hb);have Bq:=Lib.hid (below_step hBi.out hb);clear hb)))
                refine ⟨⟨i + 1,q + 1,M,px,L2,true,rfl,rfl,(by first | rfl | exact congrArg (Value.int .i64) ewi),Lib.hid ⟨by have:=hq.out;omega,hlt⟩,Lib.hid (by rw [if_pos rfl];exact u1.out),hgo3,Lib.hid ⟨hL3.out.1,fun h=>(by first | exact hL3.out.2.1 h | exact hL3.out.2.1 trivial | cases h),hL3.out.2.2⟩,Rq,Bq⟩,?_⟩
                simp only [intOf];have:=hq.out;omega
      | true =>
        have hM0:=hML.out
        rw [if_pos rfl] at hM0
        have hlb : wlast (L.map eb) = ln:=by rw [← hM0,wlast_snoc]
        have hlz : ln.size ≤ 3000:=by
          obtain ⟨x,hx,e⟩:=wlast_eb (hLk.out.2.1 rfl)
          rw [← hlb,e,eb_size]
          have:=wm_mem L x hx
          have:=hLk.out.2.2
          omega
        have hul:=ucols_bound ln
        have hcolL:=fun w=>columns2_any ln w (by omega)
        obtain ⟨cl,hcl⟩ : ∃ x,ucols ln = x:=⟨_,rfl⟩
        simp only [hcl] at hcolL
        rw [hcl] at hul
        have hcl0 : 0 ≤ cl:=hul.1
        have hcl1 : cl ≤ 6000:=by omega
        have e1l : wrap64 (cl + 1) = cl + 1:=w64 (by omega) (by omega)
        have e2l : wrap64 (cl + 1 + cb) = cl + 1 + cb:=w64 (by omega) (by omega)
        replace hcolL:=Lib.hid hcolL
        clear hul
        have tok1 : True:=trivial
        have tok2 : True:=trivial
        by_cases hj : cl + 1 + cb ≤ width
        · have s2:=s1b
          unfold wstep at s2
          rw [hlb,hcl,hcb,if_pos ⟨rfl,hj⟩] at s2
          obtain ⟨u1,u2⟩:=Prod.mk.inj (Option.some.inj s2)
          subst u2
          have u3 : M ++ [ln ++ ⟨#[32]⟩ ++ wb] = L2.map eb:=by
            rw [← u1,← hM0,ByteArray.append_assoc]
            simp
            rfl
          replace u3:=Lib.hid u3
          replace hM0:=Lib.hid hM0
          replace hcb:=Lib.hid hcb
          replace hcl:=Lib.hid hcl
          replace hlb:=Lib.hid hlb
          replace s1b:=Lib.hid s1b
          have tj : decide (cl + 1 + cb ≤ width) = true:=decide_eq_true hj
          have big1 : ¬ 9223372036854775807 < ln.size + 1:=by omega
          have big2 : ¬ 9223372036854775807 < ln.size + 1 + wb.size:=by omega
          clear s2 u1
          go_wp2_with (first
            | (go_at_call 56;have tq:=tok1;go_must (clear tq tok1;refine (hcolL.out _).mono ?_;rintro e wa ⟨rfl,hb⟩;have RLa:=Lib.hid (Kd.R_below RL.out hb);have Ba:=Lib.hid (below_step hB.out hb);clear hb))
            | (go_at_call 56;have tq:=tok2;go_must (clear tq tok2;refine (hcol.out _).mono ?_;rintro e wc ⟨rfl,hb⟩;have RLc:=Lib.hid (Kd.R_below RLa.out hb);have Bc:=Lib.hid (below_step Ba.out hb);clear hb)))
          refine ⟨⟨i + 1,q + 1,M,ln ++ ⟨#[32]⟩ ++ wb,L2,true,rfl,rfl,(by first | rfl | exact congrArg (Value.int .i64) ewi),Lib.hid ⟨by have:=hq.out;omega,hlt⟩,Lib.hid (by rw [if_pos rfl];exact u3.out),hgo3,Lib.hid ⟨hL3.out.1,fun h=>(by first | exact hL3.out.2.1 h | exact hL3.out.2.1 trivial | cases h),hL3.out.2.2⟩,RLc,Bc⟩,?_⟩
          simp only [intOf];have:=hq.out;omega
        · have tj : decide (cl + 1 + cb ≤ width) = false:=decide_eq_false hj
          unfold wstep at s1b
          rw [if_neg (fun h=>hj (by have h2:=h.2;rw [hlb,hcl,hcb] at h2;exact h2))] at s1b
          cases hps0 : wpieces width wb.size wb (ucols wb) with
          | none=>rw [hps0] at s1b;cases s1b
          | some pr =>
            obtain ⟨ps,r⟩:=pr
            rw [hps0] at s1b
            rw [hcb] at hps0
            replace s1b : (if r.size = 0 then some (L.map eb ++ ps,false) else some (L.map eb ++ ps ++ [r],true)) = some (L2.map eb,o2):=s1b
            have hps:=Lib.hid hps0
            clear hps0
            have hTl:=Lib.hid (show (L.map eb ++ ps).length ≤ 6000 by
              have h1:=wm_length L2
              by_cases hr0 : r.size = 0
              · rw [if_pos hr0] at s1b
                have:=congrArg List.length (Prod.mk.inj (Option.some.inj s1b)).1
                simp only [List.length_map,List.length_append] at this ⊢
                omega
              · rw [if_neg hr0] at s1b
                have:=congrArg List.length (Prod.mk.inj (Option.some.inj s1b)).1
                simp only [List.length_map,List.length_append,List.length_singleton] at this ⊢
                omega)
            replace s1b:=Lib.hid s1b
            replace hcb:=Lib.hid hcb
            replace hcl:=Lib.hid hcl
            replace hlb:=Lib.hid hlb
            replace hM0:=Lib.hid hM0
            go_wp2_with (first
              | (go_at_call 56;have tq:=tok1;go_must (clear tq tok1;refine (hcolL.out _).mono ?_;rintro e wa ⟨rfl,hb⟩;have RLa:=Lib.hid (Kd.R_below RL.out hb);have Ba:=Lib.hid (below_step hB.out hb);clear hb))
              | (go_at_call 56;have tq:=tok2;go_must (clear tq tok2;refine (hcol.out _).mono ?_;rintro e wc ⟨rfl,hb⟩;have RLc:=Lib.hid (Kd.R_below RLa.out hb);have Bc:=Lib.hid (below_step Ba.out hb);clear hb RL))
              | ((with_reducible refine gate_builtin (b:=.append) (xs:=#[.tmp 50,.tmp 52]) rfl ?_);go_must (at_builtin;refine Kd.R_append Kd.string (w0:=w3) w3.heap.size rfl (.tmp 50) (.tmp 52) 25 9 (.string ⟨#[]⟩) 16 rfl Tryz.underlying25 str_info rfl (by decide) (by decide) _ M ln [.string ln] (fun _=>True) (fun _=>False) rfl ?hx rfl (fun _ hk=>hk.elim) (fun _ _=>trivial) RLc.out Bc.out (Bc.out).size ?aL ?_;(case hx=>first | rfl | (go_simp;done) | (go_simp;rfl));(case aL=>omega);intro v5 w5 R5 hb _ _;replace R5:=Lib.hid R5;have B5:=Lib.hid hb;clear hb)))
            go_hide hQ
            obtain ⟨wo,rfl⟩ : ∃ x,x = w5:=⟨_,rfl⟩
            go_loopw [6,11] (fun v6 v11 wi=>∃ (f : Nat) (M PS : List ByteArray) (x : List Nat),v11 = .string (eb x) ∧ Hid (vr x ∧ (en x).length ≤ 3000) ∧ Hid (wpieces width f (eb x) (nsum x) = some (PS,r)) ∧ Hid (M ++ PS = L.map eb ++ ps) ∧ Hid (Kd.R Kd.string 9 wi w3.heap.size (fun _=>True) v6 M) ∧ Hid (Below w3.heap.size w3 wi)) (fun _ v11 _=>strSz v11)
            case atStart=>exact ⟨wb.size,L.map eb,ps,bW,by rw [hwb.out],Lib.hid ⟨hbx.out.2.1,hbx.out.2.2⟩,by rw [hwb.out,← hbx.out.1];exact hps,Lib.hid rfl,by rw [← hM0.out];exact R5,by exact B5⟩
            case round =>
              obtain ⟨f,M,PS,x,rfl,hlx,hwp,hMP,RM,hBi⟩:=hrel
              have hxz : (eb x).size ≤ 3000:=by rw [eb_size];exact hlx.out.2
              obtain ⟨A7,c7,rfl⟩:=Kd.R_slice RM.out
              have hMl : M.length ≤ 6000:=by
                have h1:=congrArg List.length hMP.out
                have h2:=hTl.out
                rw [List.length_append] at h1
                omega
              have hcol3:=fun w=>columns2_any (eb x) w (by omega)
              simp only [ucols_en hlx.out.1] at hcol3
              have hxb:=nsum_pos x
              obtain ⟨nx,hnx⟩ : ∃ y,nsum x = y:=⟨_,rfl⟩
              simp only [hnx] at hcol3
              by_cases hlw : width < nx
              · rw [hnx] at hwp
                obtain ⟨f',PS2,hPS,hrec⟩:=wpieces_more hlw hwp.out
                obtain ⟨a,c,hac,e1,ha1,hane,-,hcut⟩:=wpiece_en (rs:=x) hlx.out.1 h5 (by omega)
                have hva : vr a ∧ vr c:=by have h:=hlx.out.1;rw [hac] at h;exact vr_append h
                have hcn : nsum x = nsum a + nsum c:=by rw [hac,nsum_append]
                have hca:=ucols_en hva.1
                have hcs : (en x).length = (en a).length + (en c).length:=by rw [hac,en_append,List.length_append]
                have hal:=en_length a
                have hal2:=List.length_pos_iff.2 hane
                have hpc:=fun w=>piece2_calls (s:=eb x) (width:=width) (by omega) (by omega) h120 w
                have haz : (eb a).size ≤ (eb x).size:=by rw [eb_size,eb_size];omega
                rw [e1] at hPS hrec
                rw [hcut] at hrec
                simp only [e1] at hpc
                rw [hca,show nx - nsum a = nsum c by omega] at hrec
                rw [hPS] at hMP
                have hM2:=Lib.hid (show (M ++ [eb a]) ++ PS2 = L.map eb ++ ps by rw [List.append_assoc];exact hMP.out)
                have hlx2:=Lib.hid (show vr c ∧ (en c).length ≤ 3000 from ⟨hva.2,by have:=hlx.out;omega⟩)
                have hsm : (eb c).size < (eb x).size:=by rw [eb_size,eb_size];omega
                obtain ⟨pa,hpa⟩ : ∃ y,eb a = y:=⟨_,rfl⟩
                rw [hpa] at hM2 haz
                simp only [hpa] at hpc
                obtain ⟨px,hpx⟩ : ∃ y,eb x = y:=⟨_,rfl⟩
                obtain ⟨pc,hpc2⟩ : ∃ y,eb c = y:=⟨_,rfl⟩
                rw [hpx] at haz hxz hcut hsm ⊢
                rw [hpa,hpc2] at hcut
                rw [hpc2] at hsm
                simp only [hpx] at hpc hcol3
                replace hrec:=Lib.hid hrec
                replace hpc:=Lib.hid hpc
                replace hcol3:=Lib.hid hcol3
                replace hcut:=Lib.hid hcut
                replace hpc2:=Lib.hid hpc2
                have twl : decide (width < nx) = true:=decide_eq_true hlw
                clear hxb hPS hac e1 hva hcn hca hcs hnx hpa hpx hwp hMP hlx hal hal2 hane ha1
                go_wp2_with (first
                  | (go_at_call 56;go_must (refine (hcol3.out _).mono ?_;rintro e wq ⟨rfl,hb⟩;have Rq:=Lib.hid (Kd.R_below RM.out hb);have Bq:=Lib.hid (below_step hBi.out hb);clear hb))
                  | (go_at_call 57;go_must (refine (hpc.out _).mono ?_;rintro e wp ⟨rfl,hb⟩;have Rp:=Lib.hid (Kd.R_below Rq.out hb);have Bp:=Lib.hid (below_step Bq.out hb);clear hb))
                  | ((with_reducible refine gate_builtin (b:=.append) (xs:=#[.tmp 61,.tmp 63]) rfl ?_);go_must (at_builtin;refine Kd.R_append Kd.string (w0:=w3) w3.heap.size rfl (.tmp 61) (.tmp 63) 25 9 (.string ⟨#[]⟩) 16 rfl Tryz.underlying25 str_info rfl (by decide) (by decide) _ M pa [.string pa] (fun _=>True) (fun _=>False) rfl ?hx rfl (fun _ hk=>hk.elim) (fun _ _=>trivial) Rp.out Bp.out (Bp.out).size ?aL ?_;(case hx=>first | rfl | (go_simp;done) | (go_simp;rfl));(case aL=>omega);intro v8 w8 R8 hb _ _;replace R8:=Lib.hid R8;have B8:=Lib.hid hb;clear hb)))
                refine ⟨⟨f',M ++ [pa],PS2,c,by rw [hcut.out,hpc2.out],hlx2,hrec,hM2,R8,B8⟩,?_⟩
                rw [hcut.out]
                exact hsm
              · rw [hnx] at hwp
                obtain ⟨hP0,hr⟩:=wpieces_done hlw hwp.out
                have hM3:=hMP.out
                rw [hP0,List.append_nil] at hM3
                have twl : decide (width < nx) = false:=decide_eq_false hlw
                have hs2:=s1b.out
                rw [← hM3] at hs2
                rw [hr] at hs2
                obtain ⟨px,hpx⟩ : ∃ y,eb x = y:=⟨_,rfl⟩
                rw [hpx] at hs2 hxz ⊢
                simp only [hpx] at hcol3
                replace hcol3:=Lib.hid hcol3
                clear hP0 hMP hwp hr hlx hxb hTl hnx
                by_cases hr0 : px.size = 0
                · rw [if_pos hr0] at hs2
                  obtain ⟨u1,u2⟩:=Prod.mk.inj (Option.some.inj hs2)
                  have hx1 : x = []:=eb_size0.1 (by rw [hpx];exact hr0)
                  have hx0 : px = ⟨#[]⟩:=by rw [← hpx,hx1];rfl
                  subst hx0
                  subst u2
                  replace u1:=Lib.hid u1
                  clear hpx hs2 hM3
                  subst hQ
                  go_wp2_with (first
                    | (go_at_call 56;go_must (refine (hcol3.out _).mono ?_;rintro e wq ⟨rfl,hb⟩;have Rq:=Lib.hid (Kd.R_below RM.out hb);have Bq:=Lib.hid (below_step hBi.out hb);clear hb)))
                  refine ⟨⟨i + 1,q + 1,M,⟨#[]⟩,L2,false,rfl,rfl,(by first | rfl | exact congrArg (Value.int .i64) ewi),Lib.hid ⟨by have:=hq.out;omega,hlt⟩,Lib.hid (by rw [if_neg (by decide),List.append_nil];exact u1.out),hgo3,Lib.hid ⟨hL3.out.1,fun h=>(by first | exact hL3.out.2.1 h | exact hL3.out.2.1 trivial | cases h),hL3.out.2.2⟩,Rq,Bq⟩,?_⟩
                  simp only [intOf];have:=hq.out;omega
                · rw [if_neg hr0] at hs2
                  obtain ⟨u1,u2⟩:=Prod.mk.inj (Option.some.inj hs2)
                  subst u2
                  have hne : px ≠ ⟨#[]⟩:=fun h=>hr0 (by rw [h];rfl)
                  have hnb : px.toList.isEmpty = false:=nonempty_list hne
                  replace u1:=Lib.hid u1
                  clear hpx hs2 hM3 hr0
                  subst hQ
                  go_wp2_with (first
                    | (go_at_call 56;go_must (refine (hcol3.out _).mono ?_;rintro e wq ⟨rfl,hb⟩;have Rq:=Lib.hid (Kd.R_below RM.out hb);have Bq:=Lib.hid (below_step hBi.out hb);clear hb)))
                  refine ⟨⟨i + 1,q + 1,M,px,L2,true,rfl,rfl,(by first | rfl | exact congrArg (Value.int .i64) ewi),Lib.hid ⟨by have:=hq.out;omega,hlt⟩,Lib.hid (by rw [if_pos rfl];exact u1.out),hgo3,Lib.hid ⟨hL3.out.1,fun h=>(by first | exact hL3.out.2.1 h | exact hL3.out.2.1 trivial | cases h),hL3.out.2.2⟩,Rq,Bq⟩,?_⟩
                  simp only [intOf];have:=hq.out;omega
end Go.Proofs.YtpfbcepgmigeiaaGreatDoor.Q
end
section
namespace Go.Proofs.YtpfbcepgmigeiaaGreatDoor.Q
open Go.RowKit Go.Proofs.YtpfbcepgmigeiaaGreatDoorW.PrintWords Go.Proofs.YtpfbcepgmigeiaaGreatDoorW.PrintLast Go.Proofs.YtpfbcepgmigeiaaGreatDoorW.PrintMore
set_option linter.unusedVariables false
set_option linter.unusedSimpArgs false
open Go.Proofs.YtpfbcepgmigeiaaGreatDoorS
theorem cells5 {w : World} {b t : Nat} {v0 v1 v2 v3 v4 : Value} (h : w.heap[b]? = some (.cells #[v0,v1,v2,v3,v4] t (0,0))) : w.cell? ⟨b,0,none⟩ = some v0 ∧ w.cell? ⟨b,1,none⟩ = some v1 ∧ w.cell? ⟨b,2,none⟩ = some v2 ∧ w.cell? ⟨b,3,none⟩ = some v3 ∧ w.cell? ⟨b,4,none⟩ = some v4 :=
  ⟨(blk_cell h 0).trans rfl,(blk_cell h 1).trans rfl,(blk_cell h 2).trans rfl,(blk_cell h 3).trans rfl,(blk_cell h 4).trans rfl⟩
structure GridC (A2 : Option Addr) (c2 : Nat) (bl : List Bool) (A3 : Option Addr) (c3 : Nat) (ri : List Bool) (A4 : Option Addr) (c4 : Nat) (be : List Bool) (w : World) : Prop where
  h2 : Kd.C Kd.bool w A2 bl.length bl
  h3 : Kd.C Kd.bool w A3 ri.length ri
  h4 : Kd.C Kd.bool w A4 be.length be
theorem GridC.below {A2 : Option Addr} {c2 : Nat} {bl : List Bool} {A3 : Option Addr} {c3 : Nat} {ri : List Bool} {A4 : Option Addr} {c4 : Nat} {be : List Bool} {w w' : World} (h : GridC A2 c2 bl A3 c3 ri A4 c4 be w) (hb : Below w.heap.size w w') : GridC A2 c2 bl A3 c3 ri A4 c4 be w' :=
  ⟨Kd.C_below h.h2 hb,Kd.C_below h.h3 hb,Kd.C_below h.h4 hb⟩
theorem rebusref05_side.calls (n : Int) (w : World) : Calls Tryz.prog 81 #[.int .i64 n] w fun e w'=>e = .returned (.bool (decide (1 ≤ n) && decide (n ≤ 16))) ∧ w = w':=by
  go_enter Tryz.func81,Tryz.ntmps81
  go_wp2
  all_goals go_ret
  all_goals refine ⟨congrArg (fun x=>Ending.returned (Value.bool x)) ?_,rfl⟩
  all_goals try simp only [decide_eq_true_eq,decide_eq_false_iff_not] at *
  all_goals first
    | (rw [decide_eq_false (by omega : ¬ 1 ≤ n)];rfl)
    | (rw [decide_eq_true (by omega : 1 ≤ n)];simp)
structure Dims (H W : Int) (bl ri be : List Bool) : Prop where
  h1 : 1 ≤ H
  h2 : H ≤ 16
  w1 : 1 ≤ W
  w2 : W ≤ 16
  b : (bl.length : Int) = H * W
  r : (ri.length : Int) = H * W
  e : (be.length : Int) = H * W
  n : H * W ≤ 256
theorem Dims.mk2 {H W : Int} {bl ri be : List Bool} (h1 : gsides H W = true) (h2 : gsizes H W bl ri be = true) : Dims H W bl ri be:=by
  simp only [gsides,gsizes,Bool.and_eq_true,decide_eq_true_eq] at h1 h2
  exact ⟨h1.1.1,h1.1.2,h1.2.1,h1.2.2,h2.1,h2.2.1,h2.2.2,Int.mul_le_mul h1.1.2 h1.2.2 (by omega) (by omega)⟩
theorem Dims.of {H W : Int} {bl ri be : List Bool} (h : gcheck H W bl ri be = 0) : Dims H W bl ri be:=by
  unfold gcheck at h
  split at h
  · cases h
  · rename_i h1
    split at h
    · cases h
    · rename_i h2
      exact Dims.mk2 (by simpa using h1) (by simpa using h2)
theorem gbads_step {H W : Int} {bl ri be : List Bool} {n i : Nat} (hi : i < n) : gbads H W bl ri be (n - i) i = (gbad H W bl ri be i || gbads H W bl ri be (n - (i + 1)) (i + 1)):=by
  obtain ⟨d,hd⟩ : ∃ d,n - i = d + 1:=⟨n - i - 1,by omega⟩
  rw [hd,show n - (i + 1) = d by omega]
  rfl
theorem place_facts {H W q : Int} (hW : 1 ≤ W) (h0 : 0 ≤ q) (h1 : q < H * W) : ∃ d m,q / W = d ∧ q % W = m ∧ 0 ≤ d ∧ d < H ∧ 0 ≤ m ∧ m < W ∧ d ≤ q ∧ (m + 1 < W → q + 1 < H * W) ∧ (d + 1 < H → q + W < H * W) ∧ (0 < m → 0 ≤ q - 1) ∧ (0 < d → 0 ≤ q - W):=by
  obtain ⟨d,hd⟩ : ∃ d,q / W = d:=⟨_,rfl⟩
  obtain ⟨m,hm⟩ : ∃ m,q % W = m:=⟨_,rfl⟩
  have hm0 : 0 ≤ m:=by rw [← hm];exact Int.emod_nonneg _ (by omega)
  have hmW : m < W:=by rw [← hm];exact Int.emod_lt_of_pos _ (by omega)
  have hs:=Int.mul_ediv_add_emod q W
  rw [Int.mul_comm,hd,hm] at hs
  have hd0 : 0 ≤ d:=by rw [← hd];exact Int.ediv_nonneg h0 (by omega)
  have hdH : d < H:=by rw [← hd];exact Int.ediv_lt_of_lt_mul (by omega) h1
  have hdq : d * 1 ≤ d * W:=Int.mul_le_mul_of_nonneg_left hW hd0
  have hx : (d + 1) * W ≤ H * W:=Int.mul_le_mul_of_nonneg_right (by omega) (by omega)
  rw [Int.add_mul,Int.one_mul] at hx
  refine ⟨d,m,hd,hm,hd0,hdH,hm0,hmW,by omega,fun _=>by omega,fun h=>?_,fun _=>?_,fun h=>?_⟩
  · have hy : (d + 1 + 1) * W ≤ H * W:=Int.mul_le_mul_of_nonneg_right (by omega) (by omega)
    rw [Int.add_mul,Int.add_mul,Int.one_mul] at hy
    omega
  · have : 0 ≤ d * W:=Int.mul_nonneg hd0 (by omega)
    omega
  · have hy : 1 * W ≤ d * W:=Int.mul_le_mul_of_nonneg_right (by omega) (by omega)
    rw [Int.one_mul] at hy
    omega
set_option maxHeartbeats 8000000 in
set_option maxRecDepth 1000000 in
theorem rebusref05_barred.calls {H W : Int} {A2 : Option Addr} {c2 : Nat} {bl : List Bool} {A3 : Option Addr} {c3 : Nat} {ri : List Bool} {A4 : Option Addr} {c4 : Nat} {be : List Bool} {w : World} (h : GridC A2 c2 bl A3 c3 ri A4 c4 be w) (hd : Dims H W bl ri be) :
    Calls Tryz.prog 82 #[.agg #[.int .i64 H,.int .i64 W,.slice A2 bl.length c2,.slice A3 ri.length c3,.slice A4 be.length c4]] w fun e w'=>e = .returned (.bool (gbads H W bl ri be bl.length 0)) ∧ Below w.heap.size w w':=by
  have hx:=box1 w (.cells #[.int .i64 H,.int .i64 W,.slice A2 bl.length c2,.slice A3 ri.length c3,.slice A4 be.length c4] 24)
  replace hx:=Lib.hid hx
  have hu24:=Tryz.underlying24
  have hH1:=hd.h1
  have hH2:=hd.h2
  have hW1:=hd.w1
  have hW2:=hd.w2
  have hnn:=hd.n
  have hbl:=hd.b
  have hri:=hd.r
  have hbe:=hd.e
  obtain ⟨n,hn⟩ : ∃ n,H * W = n:=⟨_,rfl⟩
  have hn0 : 0 ≤ n:=by rw [← hn];exact Int.mul_nonneg (by omega) (by omega)
  rw [hn] at hnn hbl hri hbe
  have hwn : wrap64 (H * W) = n:=by rw [hn];exact w64 (by omega) (by omega)
  replace hn:=Lib.hid hn
  clear hd
  go_enter Tryz.func82,Tryz.ntmps82
  go_wp2
  generalize w.alloc (.cells #[.int .i64 H,.int .i64 W,.slice A2 bl.length c2,.slice A3 ri.length c3,.slice A4 be.length c4] 24) = w1 at hx ⊢
  go_loopw [3] (fun v3 wr=>∃ (i : Nat) (q : Int),v3 = .int .i64 q ∧ Hid (q = i ∧ i ≤ bl.length) ∧ Hid (gbads H W bl ri be bl.length 0 = gbads H W bl ri be (bl.length - i) i) ∧ Hid (Below w1.heap.size w1 wr)) (fun v3 _=>bl.length - (intOf v3).toNat)
  case atStart=>exact ⟨0,0,rfl,Lib.hid ⟨rfl,Nat.zero_le _⟩,Lib.hid rfl,Lib.hid (Below.refl _ _)⟩
  case round =>
    obtain ⟨i,q,rfl,hq,hg,hB⟩:=hrel
    obtain ⟨b0,b1,b2,b3,b4⟩:=cells5 (blk_below hx.out.1 hB.out)
    have hc:=(h.below hx.out.2).below hB.out
    by_cases hlt : i < bl.length
    · have hq0 : 0 ≤ q:=by have:=hq.out;omega
      have hq1 : q < n:=by have:=hq.out;omega
      obtain ⟨d,m,ed,em,hd0,hdH,hm0,hmW,hdq,k1,k2,_,_⟩:=place_facts (H:=H) hW1 hq0 (by rw [hn.out];exact hq1)
      rw [hn.out] at k1 k2
      have hdw : wrap64 (q.tdiv W) = d:=by rw [Int.tdiv_eq_ediv_of_nonneg hq0,ed];exact w64 (by omega) (by omega)
      have hmw : wrap64 (q.tmod W) = m:=by rw [Int.tmod_eq_emod_of_nonneg hq0,em];exact w64 (by omega) (by omega)
      have hgs:=gbads_step (H:=H) (W:=W) (bl:=bl) (ri:=ri) (be:=be) hlt
      have egb : gbad H W bl ri be (i : Int) = ((rdOf false ri q && (rdOf false bl q || (m == W - 1) || rdOf false bl (q + 1))) || (rdOf false be q && (rdOf false bl q || (d == H - 1) || rdOf false bl (q + W)))):=by
        unfold gbad
        rw [← hq.out.1,em,ed]
        rfl
      rw [egb] at hgs
      clear egb
      obtain ⟨a2,e2,z2⟩:=Kd.at_bool hc.h2 q hq0 (by omega)
      obtain ⟨a3,e3,z3⟩:=Kd.at_bool hc.h3 q hq0 (by omega)
      obtain ⟨a4,e4,z4⟩:=Kd.at_bool hc.h4 q hq0 (by omega)
      cases e2
      cases e3
      cases e4
      replace hgs:=Lib.hid hgs
      replace hlt:=Lib.hid hlt
      obtain ⟨rr,hrr⟩ : ∃ x,rdOf false ri q = x:=⟨_,rfl⟩
      obtain ⟨bb,hbb⟩ : ∃ x,rdOf false bl q = x:=⟨_,rfl⟩
      obtain ⟨ee,hee⟩ : ∃ x,rdOf false be q = x:=⟨_,rfl⟩
      replace hgs:=hgs.out
      rw [hrr,hbb,hee] at hgs
      rw [hrr] at z3
      rw [hbb] at z2
      rw [hee] at z4
      replace hgs:=Lib.hid hgs
      clear hrr hbb hee
      cases rr with
      | false =>
        cases ee with
        | false =>
          have hv : gbads H W bl ri be bl.length 0 = gbads H W bl ri be (bl.length - (i + 1)) (i + 1):=by rw [hg.out,hgs.out];simp []
          replace hv:=Lib.hid hv
          go_wp2
          go_quiet (fail)
          go_wp2
          go_quiet (fail)
          go_wp2
          refine ⟨⟨i + 1,q + 1,rfl,Lib.hid ⟨by have:=hq.out;omega,hlt.out⟩,hv,Lib.hid (by first | exact pw_below_drewN hB.out _ | exact pw_below_drewN (pw_below_drewN hB.out _) _)⟩,?_⟩
          simp only [intOf];have:=hq.out;have:=hlt.out;omega
        | true =>
          cases bb with
          | true =>
            have hv : gbads H W bl ri be bl.length 0 = true:=by rw [hg.out,hgs.out];simp []
            replace hv:=Lib.hid hv
            go_wp2
            go_quiet (fail)
            go_wp2
            go_quiet (fail)
            go_wp2
            go_ret
            exact ⟨by rw [hv.out];rfl,by first | exact pw_below_drewN (below_step hx.out.2 hB.out) _ | exact pw_below_drewN (pw_below_drewN (below_step hx.out.2 hB.out) _) _⟩
          | false =>
            by_cases hdd : d = H - 1
            · have t2 : (d == H - 1) = true:=by simpa using hdd
              clear hdd
              have hv : gbads H W bl ri be bl.length 0 = true:=by rw [hg.out,hgs.out];simp [t2]
              replace hv:=Lib.hid hv
              go_wp2
              go_quiet (fail)
              go_wp2
              go_quiet (fail)
              go_wp2
              go_ret
              exact ⟨by rw [hv.out];rfl,by first | exact pw_below_drewN (below_step hx.out.2 hB.out) _ | exact pw_below_drewN (pw_below_drewN (below_step hx.out.2 hB.out) _) _⟩
            · have t2 : (d == H - 1) = false:=by simpa using hdd
              obtain ⟨a6,e6,z6⟩:=Kd.at_bool hc.h2 (q + W) (by omega) (by have:=k2 (by omega);omega)
              cases e6
              obtain ⟨b2,hb2⟩ : ∃ x,rdOf false bl (q + W) = x:=⟨_,rfl⟩
              rw [hb2] at z6
              have k3 : q + W < n:=k2 (by omega)
              clear hdd
              cases b2 with
              | true =>
                have hv : gbads H W bl ri be bl.length 0 = true:=by rw [hg.out,hgs.out];simp [t2,hb2]
                replace hv:=Lib.hid hv
                go_wp2
                go_quiet (fail)
                go_wp2
                go_quiet (fail)
                go_wp2
                go_ret
                exact ⟨by rw [hv.out];rfl,by first | exact pw_below_drewN (below_step hx.out.2 hB.out) _ | exact pw_below_drewN (pw_below_drewN (below_step hx.out.2 hB.out) _) _⟩
              | false =>
                have hv : gbads H W bl ri be bl.length 0 = gbads H W bl ri be (bl.length - (i + 1)) (i + 1):=by rw [hg.out,hgs.out];simp [t2,hb2]
                replace hv:=Lib.hid hv
                go_wp2
                go_quiet (fail)
                go_wp2
                go_quiet (fail)
                go_wp2
                refine ⟨⟨i + 1,q + 1,rfl,Lib.hid ⟨by have:=hq.out;omega,hlt.out⟩,hv,Lib.hid (by first | exact pw_below_drewN hB.out _ | exact pw_below_drewN (pw_below_drewN hB.out _) _)⟩,?_⟩
                simp only [intOf];have:=hq.out;have:=hlt.out;omega
      | true =>
        cases bb with
        | true =>
          have hv : gbads H W bl ri be bl.length 0 = true:=by rw [hg.out,hgs.out];simp []
          replace hv:=Lib.hid hv
          go_wp2
          go_quiet (fail)
          go_wp2
          go_ret
          exact ⟨by rw [hv.out];rfl,by first | exact pw_below_drewN (below_step hx.out.2 hB.out) _ | exact pw_below_drewN (pw_below_drewN (below_step hx.out.2 hB.out) _) _⟩
        | false =>
          by_cases hmm : m = W - 1
          · have t1 : (m == W - 1) = true:=by simpa using hmm
            clear hmm
            have hv : gbads H W bl ri be bl.length 0 = true:=by rw [hg.out,hgs.out];simp [t1]
            replace hv:=Lib.hid hv
            go_wp2
            go_quiet (fail)
            go_wp2
            go_ret
            exact ⟨by rw [hv.out];rfl,by first | exact pw_below_drewN (below_step hx.out.2 hB.out) _ | exact pw_below_drewN (pw_below_drewN (below_step hx.out.2 hB.out) _) _⟩
          · have t1 : (m == W - 1) = false:=by simpa using hmm
            obtain ⟨a5,e5,z5⟩:=Kd.at_bool hc.h2 (q + 1) (by omega) (by have:=k1 (by omega);omega)
            cases e5
            obtain ⟨b1,hb1⟩ : ∃ x,rdOf false bl (q + 1) = x:=⟨_,rfl⟩
            rw [hb1] at z5
            have k4 : q + 1 < n:=k1 (by omega)
            clear hmm
            cases b1 with
            | true =>
              have hv : gbads H W bl ri be bl.length 0 = true:=by rw [hg.out,hgs.out];simp [t1,hb1]
              replace hv:=Lib.hid hv
              go_wp2
              go_quiet (fail)
              go_wp2
              go_ret
              exact ⟨by rw [hv.out];rfl,by first | exact pw_below_drewN (below_step hx.out.2 hB.out) _ | exact pw_below_drewN (pw_below_drewN (below_step hx.out.2 hB.out) _) _⟩
            | false =>
              cases ee with
              | false =>
                have hv : gbads H W bl ri be bl.length 0 = gbads H W bl ri be (bl.length - (i + 1)) (i + 1):=by rw [hg.out,hgs.out];simp [t1,hb1]
                replace hv:=Lib.hid hv
                go_wp2
                go_quiet (fail)
                go_wp2
                go_quiet (fail)
                go_wp2
                refine ⟨⟨i + 1,q + 1,rfl,Lib.hid ⟨by have:=hq.out;omega,hlt.out⟩,hv,Lib.hid (by first | exact pw_below_drewN hB.out _ | exact pw_below_drewN (pw_below_drewN hB.out _) _)⟩,?_⟩
                simp only [intOf];have:=hq.out;have:=hlt.out;omega
              | true =>
                by_cases hdd : d = H - 1
                · have t2 : (d == H - 1) = true:=by simpa using hdd
                  clear hdd
                  have hv : gbads H W bl ri be bl.length 0 = true:=by rw [hg.out,hgs.out];simp [t1,hb1,t2]
                  replace hv:=Lib.hid hv
                  go_wp2
                  go_quiet (fail)
                  go_wp2
                  go_quiet (fail)
                  go_wp2
                  go_ret
                  exact ⟨by rw [hv.out];rfl,by first | exact pw_below_drewN (below_step hx.out.2 hB.out) _ | exact pw_below_drewN (pw_below_drewN (below_step hx.out.2 hB.out) _) _⟩
                · have t2 : (d == H - 1) = false:=by simpa using hdd
                  obtain ⟨a6,e6,z6⟩:=Kd.at_bool hc.h2 (q + W) (by omega) (by have:=k2 (by omega);omega)
                  cases e6
                  obtain ⟨b2,hb2⟩ : ∃ x,rdOf false bl (q + W) = x:=⟨_,rfl⟩
                  rw [hb2] at z6
                  have k3 : q + W < n:=k2 (by omega)
                  clear hdd
                  cases b2 with
                  | true =>
                    have hv : gbads H W bl ri be bl.length 0 = true:=by rw [hg.out,hgs.out];simp [t1,hb1,t2,hb2]
                    replace hv:=Lib.hid hv
                    go_wp2
                    go_quiet (fail)
                    go_wp2
                    go_quiet (fail)
                    go_wp2
                    go_ret
                    exact ⟨by rw [hv.out];rfl,by first | exact pw_below_drewN (below_step hx.out.2 hB.out) _ | exact pw_below_drewN (pw_below_drewN (below_step hx.out.2 hB.out) _) _⟩
                  | false =>
                    have hv : gbads H W bl ri be bl.length 0 = gbads H W bl ri be (bl.length - (i + 1)) (i + 1):=by rw [hg.out,hgs.out];simp [t1,hb1,t2,hb2]
                    replace hv:=Lib.hid hv
                    go_wp2
                    go_quiet (fail)
                    go_wp2
                    go_quiet (fail)
                    go_wp2
                    refine ⟨⟨i + 1,q + 1,rfl,Lib.hid ⟨by have:=hq.out;omega,hlt.out⟩,hv,Lib.hid (by first | exact pw_below_drewN hB.out _ | exact pw_below_drewN (pw_below_drewN hB.out _) _)⟩,?_⟩
                    simp only [intOf];have:=hq.out;have:=hlt.out;omega
    · have hge : ¬ q < n:=by have:=hq.out;omega
      have hv : gbads H W bl ri be bl.length 0 = false:=by rw [hg.out,show bl.length - i = 0 by have:=hq.out;omega];rfl
      replace hv:=Lib.hid hv
      go_wp2
      go_ret
      exact ⟨by rw [hv.out];rfl,below_step hx.out.2 hB.out⟩
end Go.Proofs.YtpfbcepgmigeiaaGreatDoor.Q
end
section
namespace Go.Proofs.YtpfbcepgmigeiaaGreatDoor.Q
open Go.RowKit Go.Proofs.YtpfbcepgmigeiaaGreatDoorW.PrintWords Go.Proofs.YtpfbcepgmigeiaaGreatDoorW.PrintLast Go.Proofs.YtpfbcepgmigeiaaGreatDoorW.PrintMore
set_option linter.unusedVariables false
set_option linter.unusedSimpArgs false
open Go.Proofs.YtpfbcepgmigeiaaGreatDoorS
set_option maxHeartbeats 4000000 in
set_option maxRecDepth 1000000 in
theorem side2_calls {H W : Int} {A2 : Option Addr} {c2 : Nat} {bl : List Bool} {A3 : Option Addr} {c3 : Nat} {ri : List Bool} {A4 : Option Addr} {c4 : Nat} {be : List Bool} {i : Int} {w : World} (h : GridC A2 c2 bl A3 c3 ri A4 c4 be w) (hg : gcheck H W bl ri be = 0) (h0 : 0 ≤ i) (h1 : i < bl.length) :
    Calls Tryz.prog 59 #[.agg #[.int .i64 H,.int .i64 W,.slice A2 bl.length c2,.slice A3 ri.length c3,.slice A4 be.length c4],.int .i64 i] w fun e w'=>e = .returned (.string (sideB W ri i)) ∧ Below w.heap.size w w':=by
  obtain ⟨hH,hW,hl⟩:=gcheck_ok hg
  have hn:=(mul_small hH hW).2
  obtain ⟨em,m0,mW,mi⟩:=pg_rem h0 hW.1
  have hx:=box1 w (.cells #[.int .i64 H,.int .i64 W,.slice A2 bl.length c2,.slice A3 ri.length c3,.slice A4 be.length c4] 24)
  obtain ⟨b0,b1,b2,b3,b4⟩:=GridBox.of hx.1
  have hC:=(h.below hx.2).h3
  have hB:=Lib.hid hx.2
  clear hx
  obtain ⟨m,hm⟩ : ∃ m,i % W = m:=⟨_,rfl⟩
  have hv : sideB W ri i = if 0 < m ∧ rdOf false ri (i - 1) = true then ⟨#[35]⟩ else ⟨#[124]⟩:=by unfold sideB;rw [hm];rfl
  rw [hm] at em m0 mW mi
  have hW0 : W ≠ 0:=by omega
  by_cases hp : 0 < m
  · have hi1:=mi hp
    have ew : wrap64 (i - 1) = i - 1:=w64 (by omega) (by omega)
    have hq : i - 1 < (ri.length : Int):=by omega
    obtain ⟨ad,eA,z⟩:=Kd.at_bool hC (i - 1) (by omega) hq
    cases eA
    obtain ⟨bb,hbb⟩ : ∃ x,rdOf false ri (i - 1) = x:=⟨_,rfl⟩
    rw [hbb] at z hv
    rw [show (i - 1).toNat = i.toNat - 1 from by omega] at z
    clear hbb hm mi hC h
    cases bb with
    | true =>
      rw [if_pos ⟨hp,rfl⟩] at hv
      rw [hv]
      clear hv
      go_enter Tryz.func59,Tryz.ntmps59
      go_wp2
      go_ret
      exact ⟨rfl,hB.out⟩
    | false =>
      rw [if_neg (fun h=>by cases h.2)] at hv
      rw [hv]
      clear hv
      go_enter Tryz.func59,Tryz.ntmps59
      go_wp2
      go_ret
      exact ⟨rfl,hB.out⟩
  · rw [if_neg (fun h=>hp h.1)] at hv
    rw [hv]
    clear hv hm mi hC h
    go_enter Tryz.func59,Tryz.ntmps59
    go_wp2
    go_ret
    exact ⟨rfl,hB.out⟩
theorem one_digit {d : Nat} (h : d < 10) : strOfNums [wrap64 (48 + (d : Int)) % 256] = ⟨#[UInt8.ofNat (48 + d)]⟩:=by
  rw [w64 (by omega) (by omega)]
  have e : (48 + (d : Int)) % 256 = (((UInt8.ofNat (48 + d)).toNat : Nat) : Int):=by
    rw [UInt8.toNat_ofNat']
    omega
  rw [e]
  exact Lib.Lz.strOfNums_map [UInt8.ofNat (48 + d)]
theorem decimal_eq (n : Nat) (h : n ≤ 9223372036854775807) : ∀ k,n < k → rebusref07_Decimal.f k (n : Int) = some ⟨(Lib.decDigits n).toArray⟩:=by
  induction n using Nat.strongRecOn with
  | ind n ih =>
    intro k hk
    obtain ⟨k,rfl⟩ : ∃ m,k = m + 1:=⟨k - 1,by omega⟩
    simp only [rebusref07_Decimal.f]
    by_cases hn : n < 10
    · rw [if_pos (show (n : Int) < 10 by omega),one_digit hn,Lib.decDigits,dif_pos hn]
    · have e1 : Int.tdiv (n : Int) 10 = ((n / 10 : Nat) : Int):=(Int.ofNat_tdiv n 10).symm
      have e2 : Int.tmod (n : Int) 10 = ((n % 10 : Nat) : Int):=(Int.ofNat_tmod n 10).symm
      have hl:=pdec_len 18 (n / 10) (by omega)
      rw [if_neg (show ¬ (n : Int) < 10 by omega),e1,e2,w64 (by omega) (by omega),ih (n / 10) (by omega) (by omega) k (by omega)]
      simp only [Option.bind_some]
      rw [one_digit (Nat.mod_lt n (by omega))]
      have hs : (⟨(Lib.decDigits (n / 10)).toArray⟩ : ByteArray).size = (Lib.decDigits (n / 10)).length:=by show (Lib.decDigits (n / 10)).toArray.size = _;rw [List.size_toArray]
      rw [if_pos (by rw [hs];show _ + 1 ≤ _;omega)]
      congr 1
      rw [← ba_of_list2 (_ ++ _),bap]
      show (⟨(Lib.decDigits (n / 10) ++ [UInt8.ofNat (48 + n % 10)]).toArray⟩ : ByteArray) = ⟨(Lib.decDigits n).toArray⟩
      conv=>rhs;rw [Lib.decDigits,dif_neg hn]
theorem itoa_nat {n : Int} (h1 : 1 ≤ n) : itoaB n = ⟨(Lib.decDigits n.toNat).toArray⟩:=by
  unfold itoaB Lib.itoa
  rw [if_neg (by omega)]
theorem decimal_calls {n : Int} (h1 : 1 ≤ n) (h2 : n ≤ 256) (w : World) : Calls Tryz.prog 20 #[.int .i64 n] w fun e w'=>e = .returned (.string (itoaB n)) ∧ Below w.heap.size w w':=by
  have h:=decimal_eq n.toNat (by omega) (n.toNat + 1) (by omega)
  rw [show ((n.toNat : Nat) : Int) = n from by omega,← itoa_nat h1] at h
  exact rebusref07_Decimal.calls _ n _ w h
theorem numB_found {L : List S48} {i : Int} {m : Nat} (hm : m < L.length) (hno : ∀ x ∈ L.take m,rd x.f2 0 ≠ i) (h : rd L[m].f2 0 = i) : numB L i = itoaB L[m].f0:=by
  unfold numB
  have e : L.find? (fun x=>rd x.f2 0 == i) = some L[m]:=by
    conv=>lhs;rw [← List.take_append_drop m L,List.drop_eq_getElem_cons hm]
    rw [List.find?_append,List.find?_eq_none.2 (fun x hx=>by simpa using hno x hx),List.find?_cons]
    have : (rd L[m].f2 0 == i) = true:=by rw [h];simp
    rw [this]
    rfl
  rw [e]
theorem numB_none {L : List S48} {i : Int} (hno : ∀ x ∈ L,rd x.f2 0 ≠ i) : numB L i = ⟨#[]⟩:=by
  unfold numB
  rw [List.find?_eq_none.2 (fun x hx=>by simpa using hno x hx)]
set_option maxHeartbeats 4000000 in
set_option maxRecDepth 1000000 in
theorem number2_calls {L : List S48} {AL : Option Addr} {cL : Nat} {i : Int} {w : World} (hC : Kd.C k48 w AL L.length L) (hl : L.length ≤ 512) (hf : ∀ x ∈ L,1 ≤ x.f2.length) (hn : ∀ x ∈ L,1 ≤ x.f0 ∧ x.f0 ≤ 256) :
    Calls Tryz.prog 60 #[.slice AL L.length cL,.int .i64 i] w fun e w'=>e = .returned (.string (padB (numB L i))) ∧ Below w.heap.size w w':=by
  replace hf:=Lib.hid hf
  replace hn:=Lib.hid hn
  replace hC:=Lib.hid hC
  go_enter Tryz.func60,Tryz.ntmps60
  go_wp2
  go_loopw [5] (fun v5 wr=>∃ (m : Nat) (q : Int),v5 = .int .i64 q ∧ Hid (q = m ∧ m ≤ L.length) ∧ Hid (∀ x ∈ L.take m,rd x.f2 0 ≠ i) ∧ Hid (Below w.heap.size w wr)) (fun v5 _=>L.length - (intOf v5).toNat)
  case atStart=>exact ⟨0,0,rfl,Lib.hid ⟨rfl,Nat.zero_le _⟩,Lib.hid (fun x hx=>by simp at hx),Lib.hid (Below.refl _ _)⟩
  case round =>
    obtain ⟨m,q,rfl,hq,hno,hB⟩:=hrel
    by_cases hlt : m < L.length
    · have tlt : decide (q < (L.length : Int)) = true:=decide_eq_true (by have:=hq.out;omega)
      have hq0 : 0 ≤ q:=by have:=hq.out;omega
      have hq1 : q < (L.length : Int):=by have:=hq.out;omega
      obtain ⟨ad,Ax,cx,eA,z0,z1,z2,zc,hCx⟩:=at_T48 (Kd.C_below hC.out hB.out) q hq0 hq1
      cases eA
      have ex : rd_T48 L q = L[m]:=by
        unfold rd_T48
        rw [List.getD_eq_getElem?_getD,show q.toNat = m by have:=hq.out;omega,List.getElem?_eq_getElem hlt]
        rfl
      have hfm:=hf.out _ (List.getElem_mem hlt)
      have hnm:=hn.out _ (List.getElem_mem hlt)
      have hfo:=fun h=>numB_found (i:=i) hlt hno.out h
      have hnx : rd L[m].f2 0 ≠ i → ∀ x ∈ L.take (m + 1),rd x.f2 0 ≠ i:=fun h x hx=>by
        rw [List.take_succ_eq_append_getElem hlt] at hx
        rcases List.mem_append.1 hx with hx | hx
        · exact hno.out x hx
        · rw [List.mem_singleton.1 hx];exact h
      rw [ex] at z0 z1 z2 zc hCx
      obtain ⟨x,hx⟩ : ∃ x,L[m] = x:=⟨_,rfl⟩
      rw [hx] at z0 z1 z2 zc hCx hfm hnm hfo hnx
      obtain ⟨adx,eAx,zx⟩:=Kd.at_int hCx 0 (Int.le_refl _) (by omega)
      cases eAx
      obtain ⟨k,hk⟩ : ∃ k,rd x.f2 0 = k:=⟨_,rfl⟩
      rw [hk] at zx hfo hnx
      replace zx : wr.cell? adx = some (.int .i64 k):=zx
      have hx20 : 0 < x.f2.length:=by omega
      clear hCx z1 ex hx
      replace hlt:=Lib.hid hlt
      by_cases hki : k = i
      · have tk : (k == i) = true:=by rw [hki];simp
        have hE:=Lib.hid (hfo hki)
        have hno1:=num_ok hnm.1 hnm.2
        have hps : padB (itoaB x.f0) = padB (numB L i):=by rw [hE.out]
        replace hps:=Lib.hid hps
        replace hno1:=Lib.hid hno1
        replace hnm:=Lib.hid hnm
        clear hfo hnx hki hE
        go_wp2_with (first
          | (go_at_call 20;go_must (refine (decimal_calls hnm.out.1 hnm.out.2 _).mono ?_;rintro e w2 ⟨rfl,hb2⟩;have hB2:=Lib.hid (hB.out.trans (hb2.mono hB.out.size));clear hb2))
          | (go_at_call 92;go_must (refine (pad2_calls (by have:=hno1.out.1;omega) hno1.out.2 hno1.out.1 _).mono ?_;rintro e w3 ⟨rfl,hb3⟩;have hB3:=Lib.hid (hB2.out.trans (hb3.mono hB2.out.size));clear hb3)))
        go_ret
        exact ⟨by rw [← hps.out];rfl,hB3.out⟩
      · have tk : (k == i) = false:=by simpa using hki
        have hnx2:=Lib.hid (hnx hki)
        clear hfo hnx hki
        go_wp2
        refine ⟨⟨m + 1,q + 1,rfl,Lib.hid ⟨by have:=hq.out;omega,hlt.out⟩,hnx2,hB⟩,?_⟩
        simp only [intOf];have:=hq.out;have:=hlt.out;omega
    · have tlt : decide (q < (L.length : Int)) = false:=decide_eq_false (by have:=hq.out;omega)
      have hE : numB L i = ⟨#[]⟩:=numB_none (by have h1:=hno.out;rwa [List.take_of_length_le (by omega)] at h1)
      have hv : padB ⟨#[]⟩ = ⟨#[32,32,32]⟩:=by decide +kernel
      replace hE:=Lib.hid hE
      replace hv:=Lib.hid hv
      go_wp2
      go_ret
      exact ⟨by rw [hE.out,hv.out];rfl,hB.out⟩
end Go.Proofs.YtpfbcepgmigeiaaGreatDoor.Q
end
