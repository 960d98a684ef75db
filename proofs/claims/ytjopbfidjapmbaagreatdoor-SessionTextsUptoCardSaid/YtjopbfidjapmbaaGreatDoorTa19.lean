/- PART 19 OF A PROOF: Lean functions, and that the program computes them; written by hand and by a program. Not trusted: Lean checks it. -/
import Derived.Lib.LazyBuf
import Derived.Test.YtjopbfidjapmbaaGreatDoorTa7
import Derived.Test.YtjopbfidjapmbaaGreatDoorTa17
import Derived.Test.YtjopbfidjapmbaaGreatDoorTa18
set_option linter.unusedVariables false
set_option linter.unusedSimpArgs false
section
namespace Go.Proofs.YtjopbfidjapmbaaGreatDoor.Q
open Go.RowKit Go.Proofs.YtjopbfidjapmbaaGreatDoorW.PrintWords Go.Proofs.YtjopbfidjapmbaaGreatDoorW.PrintLast Go.Proofs.YtjopbfidjapmbaaGreatDoorW.PrintMore
attribute [local go_sem] max2_int min2_int max_two min_two max_three min_three max_four min_four
set_option linter.unusedVariables false
set_option linter.unusedSimpArgs false
def rebusref24_Write.l0 : Nat → List (S35) → ByteArray → Int → Option (ByteArray × Int × Int)
 | 0,_,_,_=>none
 | k + 1,x0,x5,x6=>if x6 < (x0.length : Int) then (if 0 ≤ x6 then ((rebusref24_line.f k ((rd_T35 x0 x6).f0) ((rd_T35 x0 x6).f1) ((rd_T35 x0 x6).f2)).bind fun bt217=>(if bt217.2 = true then (if x5.size + bt217.1.size ≤ 9223372036854775807 then (if (x5 ++ bt217.1).size + 1 ≤ 9223372036854775807 then (rebusref24_Write.l0 k x0 ((x5 ++ bt217.1) ++ (⟨#[10]⟩ : ByteArray)) (wrap64 (x6 + 1))) else (none)) else (none)) else (some ((⟨#[]⟩ : ByteArray),x6,231)))) else (none)) else (some (x5,0,0))
def rebusref24_Write.f (k : Nat) (l0 : List (S35)) : Option (ByteArray × Int × Int):=rebusref24_Write.l0 k l0 (⟨#[]⟩ : ByteArray) 0
set_option maxHeartbeats 8000000 in
set_option maxRecDepth 100000 in
theorem rebusref24_Write.calls (k : Nat) (A0 : Option Addr) (c0 : Nat) (l0 : List (S35)) (r1 : ByteArray) (r2 : Int) (r3 : Int) (w : World) (hr0 : Kd.C k35 w A0 l0.length l0) (hc0 : l0.length ≤ c0) (h : rebusref24_Write.f k l0 = some (r1,r2,r3)) :
  Calls Tryz.prog 7 #[.slice A0 l0.length c0] w fun e w'=>e = .returned (.tuple #[.string r1,.int .i64 r2,.int .i64 r3]) ∧ Below w.heap.size w w':=by
 have hu35:=Tryz.underlying35
 have HR0:=Aside0.mk hr0
 have HC0:=Aside0.mk hc0
 clear hr0 hc0
 have HB:=Aside0.mk (Below.refl w.heap.size w)
 have H : (rebusref24_Write.l0 k l0 (⟨#[]⟩ : ByteArray) 0) = some (r1,r2,r3):=h
 clear h
 have H':=Aside0.mk H
 clear H
 go_enter Tryz.func7,Tryz.ntmps7
 go_wp2
 go_loopg [5,6] k (fun kq v5 v6 w'=>∃ (x5_1 : ByteArray) (x6_1 : Int),v5 = .string x5_1 ∧ v6 = .int .i64 x6_1 ∧ Aside0 (rebusref24_Write.l0 kq l0 x5_1 x6_1 = some (r1,r2,r3)) ∧ Aside0 (kq ≤ k) ∧ Aside0 (Below w.heap.size w w'))
 case atStart=>exact ⟨((⟨#[]⟩ : ByteArray)),(0),(by first | rfl | (simp;done) | (simp [*];done)),(by first | rfl | (simp;done) | (simp [*];done)),H',⟨Nat.le_refl _⟩,⟨by repeat (first | (with_reducible first | exact HB.out | apply below_alloc | apply pw_below_drewN | apply below_drew1) | exact HB.out)⟩⟩
 case round =>
  clear H'
  obtain ⟨x5_1,x6_1,rfl,rfl,HA,HK1,HB⟩:=hrel
  cases gk with
  | zero=>exact absurd HA.out (by simp [rebusref24_Write.l0])
  | succ k1 =>
   have H:=HA.out
   clear HA
   simp only [rebusref24_Write.l0] at H
   by_cases c2 : x6_1 < (l0.length : Int)
   ·rw [if_pos c2] at H
    have c2b0 : decide (x6_1 < (l0.length : Int)) = true:=decide_eq_true c2
    clear c2
    by_cases c3 : 0 ≤ x6_1
    ·rw [if_pos c3] at H
     have c3b0 : decide (0 ≤ x6_1) = true:=decide_eq_true c3
     clear c3
     replace H:=Option.bind_eq_some_iff.mp H
     obtain ⟨⟨t217,t218⟩,A40,H⟩:=H
     replace H : (if t218 = true then (if x5_1.size + t217.size ≤ 9223372036854775807 then (if (x5_1 ++ t217).size + 1 ≤ 9223372036854775807 then (rebusref24_Write.l0 k1 l0 ((x5_1 ++ t217) ++ (⟨#[10]⟩ : ByteArray)) (wrap64 (x6_1 + 1))) else (none)) else (none)) else (some ((⟨#[]⟩ : ByteArray),x6_1,231))) = some (r1,r2,r3):=H
     have A4:=Aside0.mk A40
     clear A40
     by_cases c5 : t218 = true
     ·subst c5
      have H1 : (if x5_1.size + t217.size ≤ 9223372036854775807 then (if (x5_1 ++ t217).size + 1 ≤ 9223372036854775807 then (rebusref24_Write.l0 k1 l0 ((x5_1 ++ t217) ++ (⟨#[10]⟩ : ByteArray)) (wrap64 (x6_1 + 1))) else (none)) else (none)) = some (r1,r2,r3):=by rw [if_pos rfl] at H;exact H
      clear H
      have H:=H1
      clear H1
      by_cases c6 : x5_1.size + t217.size ≤ 9223372036854775807
      ·rw [if_pos c6] at H
       have c6b0:=eq_true c6
       have c6b1 : decide (x5_1.size + t217.size ≤ 9223372036854775807) = true:=decide_eq_true c6
       try have c6b2 : (9223372036854775807 < x5_1.size + t217.size) = False:=eq_false (Nat.not_lt.2 c6)
       by_cases c7 : (x5_1 ++ t217).size + 1 ≤ 9223372036854775807
       ·rw [if_pos c7] at H
        have c7b0:=eq_true c7
        have c7b1 : decide ((x5_1 ++ t217).size + 1 ≤ 9223372036854775807) = true:=decide_eq_true c7
        try have c7b2 : (9223372036854775807 < (x5_1 ++ t217).size + 1) = False:=eq_false (Nat.not_lt.2 c7)
        have c7s : (x5_1 ++ t217).size = x5_1.size + t217.size:=by simp
        have c7b3 : (9223372036854775807 < x5_1.size + t217.size + 1) = False:=eq_false (Nat.not_lt.2 (by rw [← c7s];exact c7))
        clear c7s
        have H':=Aside0.mk H
        clear H
        have p216 : 0 ≤ (x6_1 : Int):=of_decide_eq_true (by first | (with_reducible assumption) | assumption)
        have q216 : x6_1 < (l0.length : Int):=of_decide_eq_true (by first | (with_reducible assumption) | assumption)
        obtain ⟨ad216,e216,hx216_0,hx216_1,hx216_2⟩:=at_T35 HR0.out x6_1 p216 q216
        cases e216
        replace hx216_0:=(HB.out.cell (World.block_lt_of_cell? w _ hx216_0)).trans hx216_0
        replace hx216_1:=(HB.out.cell (World.block_lt_of_cell? w _ hx216_1)).trans hx216_1
        replace hx216_2:=(HB.out.cell (World.block_lt_of_cell? w _ hx216_2)).trans hx216_2
        replace p216:=eq_true p216
        replace q216:=eq_true q216
        go_wp2_with (first | ((with_reducible refine gate_callee (f:=24) rfl ?_);refine goesL_ (some 20) rfl rfl Tryz.func24 (by kernel_rfl) rfl #[.agg #[.int .i64 ((rd_T35 l0 x6_1).f0),.int .i64 ((rd_T35 l0 x6_1).f1),.string ((rd_T35 l0 x6_1).f2)]] rfl (by (try simp only [List.map_toArray,List.map_cons,List.map_nil]);first | done | rfl | (simp only [List.length_drop,List.length_take];rfl)) ?_;(with_reducible refine (rebusref24_line.calls k1 ((rd_T35 l0 x6_1).f0) ((rd_T35 l0 x6_1).f1) ((rd_T35 l0 x6_1).f2) t217 true _ A4.out).mono ?_);rintro e w8 ⟨rfl,hb⟩;refine ⟨_,rfl,?_⟩;have n0_:=Aside0.mk (below_step (by repeat (first | (with_reducible first | exact HB.out | apply below_alloc | apply pw_below_drewN | apply below_drew1) | exact HB.out)) hb);clear HB;have HB:=n0_;clear n0_;(try clear hb);(try clear hb2);(try clear hk);(try clear hi)))
        go_roundg k1
        case measure=>have:=HK1.out;omega
        case rel=>exact ⟨((x5_1 ++ t217) ++ (⟨#[10]⟩ : ByteArray)),(wrap64 (x6_1 + 1)),(by first | rfl | (simp;done) | (simp [*];done)),(by first | rfl | (simp;done) | (simp [*];done)),H',⟨by have:=HK1.out;omega⟩,⟨by repeat (first | (with_reducible first | exact HB.out | apply below_alloc | apply pw_below_drewN | apply below_drew1) | exact HB.out)⟩⟩
       ·rw [if_neg c7] at H
        exact absurd H (by simp)
      ·rw [if_neg c6] at H
       exact absurd H (by simp)
     ·replace c5:=Bool.eq_false_iff.mpr c5
      subst c5
      have H1 : (some ((⟨#[]⟩ : ByteArray),x6_1,231)) = some (r1,r2,r3):=by rw [if_neg (show ¬ (false = true) by decide)] at H;exact H
      clear H
      have H:=H1
      clear H1
      simp only [Option.some.injEq,Prod.mk.injEq] at H
      obtain ⟨rfl,rfl,rfl⟩:=H
      have p216 : 0 ≤ (x6_1 : Int):=of_decide_eq_true (by first | (with_reducible assumption) | assumption)
      have q216 : x6_1 < (l0.length : Int):=of_decide_eq_true (by first | (with_reducible assumption) | assumption)
      obtain ⟨ad216,e216,hx216_0,hx216_1,hx216_2⟩:=at_T35 HR0.out x6_1 p216 q216
      cases e216
      replace hx216_0:=(HB.out.cell (World.block_lt_of_cell? w _ hx216_0)).trans hx216_0
      replace hx216_1:=(HB.out.cell (World.block_lt_of_cell? w _ hx216_1)).trans hx216_1
      replace hx216_2:=(HB.out.cell (World.block_lt_of_cell? w _ hx216_2)).trans hx216_2
      replace p216:=eq_true p216
      replace q216:=eq_true q216
      go_wp2_with (first | ((with_reducible refine gate_callee (f:=24) rfl ?_);refine goesL_ (some 20) rfl rfl Tryz.func24 (by kernel_rfl) rfl #[.agg #[.int .i64 ((rd_T35 l0 x6_1).f0),.int .i64 ((rd_T35 l0 x6_1).f1),.string ((rd_T35 l0 x6_1).f2)]] rfl (by (try simp only [List.map_toArray,List.map_cons,List.map_nil]);first | done | rfl | (simp only [List.length_drop,List.length_take];rfl)) ?_;(with_reducible refine (rebusref24_line.calls k1 ((rd_T35 l0 x6_1).f0) ((rd_T35 l0 x6_1).f1) ((rd_T35 l0 x6_1).f2) t217 false _ A4.out).mono ?_);rintro e w9 ⟨rfl,hb⟩;refine ⟨_,rfl,?_⟩;have n0_:=Aside0.mk (below_step (by repeat (first | (with_reducible first | exact HB.out | apply below_alloc | apply pw_below_drewN | apply below_drew1) | exact HB.out)) hb);clear HB;have HB:=n0_;clear n0_;(try clear hb);(try clear hb2);(try clear hk);(try clear hi)))
      go_ret3
      exact ⟨by first | rfl | (simp [errW_none,errW_some] <;> rfl) | (simp [*,errW_none,errW_some] <;> rfl) | (exfalso;contradiction),by repeat (first | (with_reducible first | exact HB.out | apply below_alloc | apply pw_below_drewN | apply below_drew1) | exact HB.out)⟩
    ·rw [if_neg c3] at H
     exact absurd H (by simp)
   ·rw [if_neg c2] at H
    have c2b0 : decide (x6_1 < (l0.length : Int)) = false:=decide_eq_false c2
    clear c2
    simp only [Option.some.injEq,Prod.mk.injEq] at H
    obtain ⟨rfl,rfl,rfl⟩:=H
    go_wp2
    go_ret3
    exact ⟨by first | rfl | (simp [errW_none,errW_some] <;> rfl) | (simp [*,errW_none,errW_some] <;> rfl) | (exfalso;contradiction),by repeat (first | (with_reducible first | exact HB.out | apply below_alloc | apply pw_below_drewN | apply below_drew1) | exact HB.out)⟩
end Go.Proofs.YtjopbfidjapmbaaGreatDoor.Q
end
section
namespace Go.Proofs.YtjopbfidjapmbaaGreatDoor.Q
open Go.RowKit Go.Proofs.YtjopbfidjapmbaaGreatDoorW.PrintWords Go.Proofs.YtjopbfidjapmbaaGreatDoorW.PrintLast Go.Proofs.YtjopbfidjapmbaaGreatDoorW.PrintMore
set_option linter.unusedVariables false
set_option linter.unusedSimpArgs false
open Go.Proofs.YtjopbfidjapmbaaGreatDoorS
open Go.Lib
theorem bt_nat (s : ByteArray) (i : Nat) (h : i < s.size) : bt s (i : Int) = ((s.data.toList[i]'(by rw [Array.length_toList];exact h)).toNat : Int):=by
  unfold bt
  rw [dif_pos (by rw [Int.toNat_natCast];exact h)]
  simp only [Int.toNat_natCast,Array.getElem_toList]
  rfl
theorem one_digit {d : Nat} (h : d < 10) : strOfNums [wrap64 (48 + (d : Int)) % 256] = ⟨#[UInt8.ofNat (48 + d)]⟩:=by
  rw [w64 (by omega) (by omega)]
  have e : (48 + (d : Int)) % 256 = (((UInt8.ofNat (48 + d)).toNat : Nat) : Int):=by
    rw [UInt8.toNat_ofNat']
    omega
  rw [e]
  exact Lib.Lz.strOfNums_map [UInt8.ofNat (48 + d)]
theorem decimal_eq (n : Nat) (h : n ≤ 9223372036854775807) : ∀ k,n < k → rebusref07_Decimal.f k (n : Int) = some ⟨(decDigits n).toArray⟩:=by
  induction n using Nat.strongRecOn with
  | ind n ih =>
    intro k hk
    obtain ⟨k,rfl⟩ : ∃ m,k = m + 1:=⟨k - 1,by omega⟩
    simp only [rebusref07_Decimal.f]
    by_cases hn : n < 10
    · rw [if_pos (show (n : Int) < 10 by omega),one_digit hn,decDigits,dif_pos hn]
    · have e1 : Int.tdiv (n : Int) 10 = ((n / 10 : Nat) : Int):=(Int.ofNat_tdiv n 10).symm
      have e2 : Int.tmod (n : Int) 10 = ((n % 10 : Nat) : Int):=(Int.ofNat_tmod n 10).symm
      have hl:=dec_len 18 (n / 10) (by omega)
      rw [if_neg (show ¬ (n : Int) < 10 by omega),e1,e2,w64 (by omega) (by omega),ih (n / 10) (by omega) (by omega) k (by omega)]
      simp only [Option.bind_some]
      rw [one_digit (Nat.mod_lt n (by omega))]
      have hs : (⟨(decDigits (n / 10)).toArray⟩ : ByteArray).size = (decDigits (n / 10)).length:=by show (decDigits (n / 10)).toArray.size = _;rw [List.size_toArray]
      rw [if_pos (by rw [hs];show _ + 1 ≤ _;omega)]
      congr 1
      refine data_inj ?_
      rw [ba_append]
      show decDigits (n / 10) ++ [UInt8.ofNat (48 + n % 10)] = decDigits n
      conv=>rhs;rw [decDigits,dif_neg hn]
theorem line_no10 (s : ByteArray) (hz : s.size ≤ 1048576) (hno : ∀ b ∈ s.data.toList,b ≠ 10) (x0 x1 : Int) : ∀ d i k : Nat,i + d = s.size → d < k → rebusref24_line.l0 k (i : Int) x0 x1 s = some ((⟨#[116,121,112,101,32]⟩ : ByteArray) ++ s,(s.toList != ([] : List UInt8)))
  | 0,i,k,h,hk=>by
    obtain ⟨k,rfl⟩ : ∃ m,k = m + 1:=⟨k - 1,by omega⟩
    simp only [rebusref24_line.l0]
    rw [if_neg (by omega),if_pos (by omega)]
  | d + 1,i,k,h,hk=>by
    obtain ⟨k,rfl⟩ : ∃ m,k = m + 1:=⟨k - 1,by omega⟩
    simp only [rebusref24_line.l0]
    have hi : i < s.size:=by omega
    have hb:=hno _ (List.getElem_mem (show i < s.data.toList.length by rw [Array.length_toList];exact hi))
    have hb2 : ¬ bt s (i : Int) = 10:=by
      rw [bt_nat s i hi]
      intro e
      refine hb (UInt8.toNat_inj.1 ?_)
      have : (10 : UInt8).toNat = 10:=rfl
      omega
    rw [if_pos (by omega),if_pos (by omega),if_neg hb2,w64 (by omega) (by omega)]
    exact line_no10 s hz hno x0 x1 d (i + 1) k (by omega) (by omega)
theorem line_has10 (s : ByteArray) (hz : s.size ≤ 1048576) (x0 x1 : Int) : ∀ d i k : Nat,i + d = s.size → d < k → (∃ j,∃ h : j < s.data.toList.length,i ≤ j ∧ s.data.toList[j] = 10) → rebusref24_line.l0 k (i : Int) x0 x1 s = some ((⟨#[]⟩ : ByteArray),false)
  | 0,i,k,h,hk,⟨j,hj,hij,_⟩=>by
    rw [Array.length_toList] at hj
    have : j < s.size:=hj
    omega
  | d + 1,i,k,h,hk,hx=>by
    obtain ⟨k,rfl⟩ : ∃ m,k = m + 1:=⟨k - 1,by omega⟩
    simp only [rebusref24_line.l0]
    have hi : i < s.size:=by omega
    rw [if_pos (by omega),if_pos (by omega)]
    by_cases hb : bt s (i : Int) = 10
    · rw [if_pos hb]
    · rw [if_neg hb,w64 (by omega) (by omega)]
      refine line_has10 s hz x0 x1 d (i + 1) k (by omega) (by omega) ?_
      obtain ⟨j,hj,hij,e⟩:=hx
      refine ⟨j,hj,?_,e⟩
      by_cases hji : j = i
      · subst hji
        rw [bt_nat s j hi,e] at hb
        exact absurd rfl hb
      · omega
def LineIs (a : Act3) (o : Option (ByteArray × Bool)) : Prop:=(goodA a = true ∧ o = some (⟨(lineL a).toArray⟩,true)) ∨ (goodA a = false ∧ ∃ s,o = some (s,false))
theorem names_at {k : Int} (h : k = 2 ∨ k = 4 ∨ k = 5 ∨ k = 6 ∨ k = 7) : rdOf ByteArray.empty ([(⟨#[]⟩ : ByteArray),(⟨#[116,121,112,101]⟩ : ByteArray),(⟨#[119,105,112,101]⟩ : ByteArray),(⟨#[109,111,118,101]⟩ : ByteArray),(⟨#[115,119,97,112]⟩ : ByteArray),(⟨#[112,101,110,99,105,108]⟩ : ByteArray),(⟨#[114,101,118,101,97,108]⟩ : ByteArray),(⟨#[99,108,101,97,114]⟩ : ByteArray)] : List ByteArray) k = ⟨(nmL k).toArray⟩:=by
  rcases h with rfl | rfl | rfl | rfl | rfl <;> rfl
theorem bne_nil (s : ByteArray) : (s.toList != ([] : List UInt8)) = !s.toList.isEmpty:=by cases s.toList <;> rfl
theorem line_bad {k : Nat} (hk : 0 < k) {x0 x1 : Int} {s : ByteArray} : rebusref24_line.j0 k true x0 x1 s = some ((⟨#[]⟩ : ByteArray),false):=by
  obtain ⟨k,rfl⟩ : ∃ m,k = m + 1:=⟨k - 1,by omega⟩
  simp only [rebusref24_line.j0,if_true]
theorem line_is (a : Act3) (h1 : a.f1 ≤ 9223372036854775807) (hz : a.f2.size ≤ 1048576) (k : Nat) (hk : a.f2.size + a.f1.toNat + 4 < k) : LineIs a (rebusref24_line.f k a.f0 a.f1 a.f2):=by
  obtain ⟨f0,f1,f2⟩:=a
  dsimp only at h1 hz hk
  have hk0 : 0 < k:=by omega
  obtain ⟨k',rfl⟩ : ∃ m,k = m + 1:=⟨k - 1,by omega⟩
  have bad : ∀ {o : Option (ByteArray × Bool)},o = rebusref24_line.j0 (k' + 1) true f0 f1 f2 → goodA ⟨f0,f1,f2⟩ = false → LineIs ⟨f0,f1,f2⟩ o:=fun e h=>.inr ⟨h,_,e.trans (line_bad hk0)⟩
  unfold rebusref24_line.f
  have hfar : (f0 < 1 ∨ f0 > 7) → goodA ⟨f0,f1,f2⟩ = false:=fun h=>by
    unfold goodA
    rw [if_neg (show ¬ f0 = 1 by omega),if_neg (show ¬ f0 = 3 by omega)]
    have : nmL f0 = []:=Classical.byContradiction fun hn=>by have:=nm_ne.1 hn;omega
    show (!(nmL f0).isEmpty && _) = false
    rw [this]
    rfl
  by_cases c1 : f0 < 1
  · rw [if_pos c1];exact bad rfl (hfar (.inl c1))
  rw [if_neg c1]
  by_cases c2 : f0 > 7
  · rw [if_pos c2];exact bad rfl (hfar (.inr c2))
  rw [if_neg c2]
  by_cases c3 : f0 = 1
  · rw [if_pos c3,if_neg (show ¬ f0 = 3 by omega)]
    have hg : goodA ⟨f0,f1,f2⟩ = (decide (f1 = 0) && !f2.toList.isEmpty && !decide (0 ≤ index f2.data.toList [10])):=by unfold goodA;rw [if_pos c3]
    by_cases c4 : f1 = 0
    · subst c4
      rw [if_pos rfl,decide_eq_false (show ¬ (0 : Int) < 0 by decide)]
      rw [decide_eq_true (show (0 : Int) = 0 from rfl),Bool.true_and] at hg
      simp only [rebusref24_line.j0,rebusref24_names.f,Option.bind_some]
      rw [if_neg (by decide),if_pos c3]
      by_cases c5 : ∀ b ∈ f2.data.toList,b ≠ 10
      · have e0 : rebusref24_line.l0 k' 0 f0 0 f2 = _:=line_no10 f2 hz c5 f0 0 f2.size 0 k' (by omega) (by omega)
        rw [e0,bne_nil]
        rw [index_not _ c5] at hg
        cases he : f2.toList.isEmpty with
        | true=>rw [he] at hg;exact .inr ⟨hg,_,rfl⟩
        | false =>
          rw [he] at hg
          refine .inl ⟨hg,?_⟩
          congr 2
          refine data_inj ?_
          rw [ba_append]
          show _ = lineL _
          unfold lineL
          rw [if_pos c3]
          rfl
      · have hx : ∃ j,∃ h : j < f2.data.toList.length,0 ≤ j ∧ f2.data.toList[j] = 10:=by
          refine Classical.byContradiction fun hn=>c5 fun b hb e=>hn ?_
          obtain ⟨j,hj,e2⟩:=List.getElem_of_mem hb
          exact ⟨j,hj,Nat.zero_le _,e2.trans e⟩
        have e0 : rebusref24_line.l0 k' 0 f0 0 f2 = _:=line_has10 f2 hz f0 0 f2.size 0 k' (by omega) (by omega) hx
        rw [e0]
        have hi : 0 ≤ index f2.data.toList [10]:=by
          refine Classical.byContradiction fun hn=>c5 (index_no _ ?_)
          have:=index_ge f2.data.toList [10]
          omega
        rw [decide_eq_true hi,Bool.not_true,Bool.and_false] at hg
        exact .inr ⟨hg,_,rfl⟩
    · rw [if_neg c4]
      refine bad rfl ?_
      rw [hg,decide_eq_false c4]
      rfl
  rw [if_neg c3]
  by_cases c4 : f2.toList = []
  · rw [if_pos c4]
    have c4e : f2.toList.isEmpty = true:=by rw [c4];rfl
    by_cases c5 : f0 = 3
    · rw [if_pos c5]
      have hg : goodA ⟨f0,f1,f2⟩ = decide (0 ≤ f1):=by
        unfold goodA
        rw [if_neg c3,if_pos c5]
        show (decide (0 ≤ f1) && f2.toList.isEmpty) = _
        rw [c4e,Bool.and_true]
      by_cases c6 : f1 < 0
      · rw [decide_eq_true c6]
        exact bad rfl (by rw [hg];exact decide_eq_false (by omega))
      · rw [decide_eq_false c6]
        simp only [rebusref24_line.j0,rebusref24_names.f,Option.bind_some]
        rw [if_neg (by decide),if_neg c3,if_pos c5]
        obtain ⟨n,rfl⟩:=Int.eq_ofNat_of_zero_le (show 0 ≤ f1 by omega)
        rw [decimal_eq n (by omega) k' (by omega)]
        simp only [Option.bind_some]
        have hl:=dec_len 18 n (by omega)
        have hs : (⟨(decDigits n).toArray⟩ : ByteArray).size = (decDigits n).length:=by show (decDigits n).toArray.size = _;rw [List.size_toArray]
        rw [if_pos (by rw [hs];omega)]
        refine .inl ⟨by rw [hg];exact decide_eq_true (by omega),?_⟩
        congr 2
        refine data_inj ?_
        rw [ba_append]
        show _ = lineL _
        unfold lineL
        rw [if_neg c3,if_pos c5]
        show _ = mvL ++ itoa (n : Int)
        rw [dec_itoa (by omega),Int.toNat_natCast]
        rfl
    · rw [if_neg c5]
      have hkd : f0 = 2 ∨ f0 = 4 ∨ f0 = 5 ∨ f0 = 6 ∨ f0 = 7:=by omega
      have hne:=nm_ne.2 hkd
      have hg : goodA ⟨f0,f1,f2⟩ = decide (f1 = 0):=by
        unfold goodA
        rw [if_neg c3,if_neg c5]
        show (!(nmL f0).isEmpty && (decide (f1 = 0) && f2.toList.isEmpty)) = _
        rw [c4e,Bool.and_true]
        cases h : nmL f0 with
        | nil=>exact absurd h hne
        | cons x y=>rfl
      by_cases c6 : f1 = 0
      · subst c6
        rw [if_pos rfl,decide_eq_false (show ¬ (0 : Int) < 0 by decide)]
        rw [decide_eq_true (show (0 : Int) = 0 from rfl)] at hg
        simp only [rebusref24_line.j0,rebusref24_names.f,Option.bind_some]
        rw [if_neg (by decide),if_neg c3,if_neg c5,if_pos (by omega),if_pos (show f0 < _ by simp;omega),names_at hkd]
        refine .inl ⟨hg,?_⟩
        congr 2
        show _ = (⟨(lineL ⟨f0,0,f2⟩).toArray⟩ : ByteArray)
        unfold lineL
        rw [if_neg c3,if_neg c5]
      · rw [if_neg c6]
        exact bad rfl (by rw [hg];exact decide_eq_false c6)
  · rw [if_neg c4]
    refine bad rfl ?_
    have c4e : f2.toList.isEmpty = false:=by
      cases h : f2.toList with
      | nil=>exact absurd h c4
      | cons x y=>rfl
    unfold goodA
    rw [if_neg c3]
    split
    · show (decide (0 ≤ f1) && f2.toList.isEmpty) = false
      rw [c4e,Bool.and_false]
    · show (!(nmL f0).isEmpty && (decide (f1 = 0) && f2.toList.isEmpty)) = false
      rw [c4e,Bool.and_false,Bool.and_false]
theorem rd_acN (l : List Act3) (i : Nat) : rd_T35 l (i : Int) = acN l i:=by
  unfold rd_T35 acN
  rw [Int.toNat_natCast]
theorem write_l0 (log : List Act3) (hn : log.length ≤ 1048576) (hz : ∀ a ∈ log,(-9223372036854775808 ≤ a.f1 ∧ a.f1 ≤ 9223372036854775807) ∧ a.f2.size ≤ 1048576) :
    ∀ d i k : Nat,i + d = log.length → d + 9223372036856000000 < k → (∀ a ∈ log.take i,goodA a = true) → ∃ s r c,rebusref24_Write.l0 k log ⟨(joinL (log.take i)).toArray⟩ (i : Int) = some (s,r,c) ∧ WrIs log s r c
  | 0,i,k,h,hk,hg=>by
    obtain ⟨k,rfl⟩ : ∃ m,k = m + 1:=⟨k - 1,by omega⟩
    simp only [rebusref24_Write.l0]
    rw [if_neg (by omega)]
    have e : log.take i = log:=List.take_of_length_le (by omega)
    rw [e] at hg ⊢
    exact ⟨_,_,_,rfl,.inl ⟨hg,rfl,rfl,rfl⟩⟩
  | d + 1,i,k,h,hk,hg=>by
    obtain ⟨k,rfl⟩ : ∃ m,k = m + 1:=⟨k - 1,by omega⟩
    simp only [rebusref24_Write.l0]
    rw [if_pos (by omega),if_pos (by omega),rd_acN]
    have hi : i < log.length:=by omega
    obtain ⟨a,ha⟩ : ∃ a,acN log i = a:=⟨_,rfl⟩
    have haz:=hz _ (acN_mem hi)
    rw [ha] at haz ⊢
    have hlen:=join_len (log.take i) (fun b hb=>hz b (List.mem_of_mem_take hb))
    rw [List.length_take] at hlen
    have hlen2 : (joinL (log.take i)).length ≤ 1048576 * 1048617:=Nat.le_trans hlen (Nat.mul_le_mul_right _ (by omega))
    have hla:=line_len haz.1 haz.2
    rcases line_is a haz.1.2 haz.2 k (by have:=haz.2;have:=haz.1.2;omega) with ⟨hga,e⟩ | ⟨hga,s,e⟩
    · rw [e]
      simp only [Option.bind_some]
      have hs1 : (⟨(joinL (log.take i)).toArray⟩ : ByteArray).size = (joinL (log.take i)).length:=by show (joinL (log.take i)).toArray.size = _;rw [List.size_toArray]
      have hs2 : (⟨(lineL a).toArray⟩ : ByteArray).size = (lineL a).length:=by show (lineL a).toArray.size = _;rw [List.size_toArray]
      rw [if_pos (by trivial),if_pos (by rw [hs1,hs2];omega),if_pos (by rw [ba_size,hs1,hs2];omega),w64 (by omega) (by omega)]
      have e2 : ((⟨(joinL (log.take i)).toArray⟩ : ByteArray) ++ ⟨(lineL a).toArray⟩) ++ (⟨#[10]⟩ : ByteArray) = ⟨(joinL (log.take (i + 1))).toArray⟩:=by
        refine data_inj ?_
        rw [ba_append,ba_append,← take_snoc z35 hi,joinL_snoc]
        rw [show log.getD i z35 = a from ha]
        simp
      rw [e2]
      refine write_l0 log hn hz d (i + 1) k (by omega) (by omega) (fun b hb=>?_)
      rw [← take_snoc z35 hi,show log.getD i z35 = a from ha] at hb
      rcases List.mem_append.1 hb with hb | hb
      · exact hg b hb
      · rw [List.mem_singleton.1 hb];exact hga
    · rw [e]
      simp only [Option.bind_some]
      rw [if_neg (by simp)]
      exact ⟨_,_,_,rfl,.inr ⟨i,hi,hg,by rw [ha];exact hga,rfl,rfl,rfl⟩⟩
theorem rwrite_calls {A : Option Addr} {c : Nat} {log : List Act3} {w : World} (hr : Kd.C kAct w A log.length log) (hc : log.length ≤ c) (hn : log.length ≤ 1048576) (hz : ∀ a ∈ log,(-9223372036854775808 ≤ a.f1 ∧ a.f1 ≤ 9223372036854775807) ∧ a.f2.size ≤ 1048576) :
    Calls Tryz.prog 7 #[.slice A log.length c] w fun e w'=>(∃ s r c,e = .returned (.tuple #[.string s,.int .i64 r,.int .i64 c]) ∧ WrIs log s r c) ∧ Below w.heap.size w w':=by
  obtain ⟨s,r,cc,h,hW⟩:=write_l0 log hn hz log.length 0 (log.length + 9223372036856000001) (by omega) (by omega) (fun a h=>by cases h)
  refine (rebusref24_Write.calls _ A c log s r cc w hr hc h).mono ?_
  rintro e w' ⟨rfl,hb⟩
  exact ⟨⟨_,_,_,rfl,hW⟩,hb⟩
end Go.Proofs.YtjopbfidjapmbaaGreatDoor.Q
end
section
namespace Go.Proofs.YtjopbfidjapmbaaGreatDoor.Q
open Go.RowKit Go.Proofs.YtjopbfidjapmbaaGreatDoorW.PrintWords Go.Proofs.YtjopbfidjapmbaaGreatDoorW.PrintLast Go.Proofs.YtjopbfidjapmbaaGreatDoorW.PrintMore
set_option linter.unusedVariables false
set_option linter.unusedSimpArgs false
open Go.Proofs.YtjopbfidjapmbaaGreatDoorS
theorem good_line {a : Act3} (h : GoodB a) {s : List UInt8} (hs : lineL a = s) : (∃ k : Int,(k = 2 ∨ k = 4 ∨ k = 5 ∨ k = 6 ∨ k = 7) ∧ s = nmL k) ∨ (∃ r,r ≠ [] ∧ s = tyL ++ r) ∨ (∃ n : Nat,n < 1000000000 ∧ s = mvL ++ Lib.decDigits n):=by
  rcases good_kind h.1 with ⟨h1,h2,h3⟩ | ⟨h1,h2,h3⟩ | ⟨h1,h2,h3⟩
  · refine .inr (.inl ⟨a.f2.data.toList,fun e=>?_,?_⟩)
    · rw [ByteArray.toList_eq,e] at h3
      cases h3
    · rw [← hs];unfold lineL;rw [if_pos h1]
  · refine .inr (.inr ⟨a.f1.toNat,by have:=h.2;omega,?_⟩)
    rw [← hs]
    unfold lineL
    rw [if_neg (by omega),if_pos h1,dec_itoa h2]
  · exact .inl ⟨a.f0,h1,by rw [← hs];exact (line_nm h.1 a.f0).2 ⟨rfl,by omega,by omega⟩⟩
theorem good_nm {k : Int} (h : k = 2 ∨ k = 4 ∨ k = 5 ∨ k = 6 ∨ k = 7) : GoodB ⟨k,0,⟨#[]⟩⟩ ∧ lineL ⟨k,0,⟨#[]⟩⟩ = nmL k:=by
  have hg : goodA ⟨k,0,⟨#[]⟩⟩ = true:=by
    rcases h with rfl | rfl | rfl | rfl | rfl <;> kernel_rfl
  exact ⟨⟨hg,show (0 : Int) ≤ 999999999 by decide⟩,(line_nm hg k).2 ⟨rfl,by show k ≠ 1;omega,by show k ≠ 3;omega⟩⟩
theorem good_ty {r : ByteArray} (hr : r.data.toList ≠ []) (hno : ∀ b ∈ r.data.toList,b ≠ 10) : GoodB ⟨1,0,r⟩ ∧ lineL ⟨1,0,r⟩ = tyL ++ r.data.toList:=by
  have h1 : r.toList.isEmpty = false:=by
    rw [ByteArray.toList_eq]
    cases h : r.data.toList with
    | nil=>exact absurd h hr
    | cons x y=>rfl
  refine ⟨⟨?_,show (0 : Int) ≤ 999999999 by decide⟩,rfl⟩
  unfold goodA
  rw [if_pos rfl]
  show (decide ((0 : Int) = 0) && !r.toList.isEmpty && !decide (0 ≤ Lib.index r.data.toList [10])) = true
  rw [h1,index_not _ hno]
  rfl
theorem good_mv {n : Nat} (h : n < 1000000000) : GoodB ⟨3,n,⟨#[]⟩⟩ ∧ lineL ⟨3,n,⟨#[]⟩⟩ = mvL ++ Lib.decDigits n:=by
  refine ⟨⟨?_,by show (n : Int) ≤ 999999999;omega⟩,?_⟩
  · unfold goodA
    rw [if_neg (show ¬ ((3 : Int) = 1) by decide),if_pos rfl]
    show (decide (0 ≤ (n : Int)) && (⟨#[]⟩ : ByteArray).toList.isEmpty) = true
    rw [decide_eq_true (by omega),ByteArray.toList_eq]
    rfl
  · unfold lineL
    rw [if_neg (show ¬ ((3 : Int) = 1) by decide),if_pos rfl]
    show mvL ++ Lib.itoa (n : Int) = _
    rw [dec_itoa (by omega),Int.toNat_natCast]
theorem rline_calls {a : Act3} {w : World} (h1 : a.f1 ≤ 9223372036854775807) (hz : a.f2.size ≤ 1048576) :
    Calls Tryz.prog 24 #[.agg #[.int .i64 a.f0,.int .i64 a.f1,.string a.f2]] w fun e w'=>(∃ s,e = .returned (.tuple #[.string s,.bool (goodA a)]) ∧ (goodA a = true → s = ⟨(lineL a).toArray⟩)) ∧ Below w.heap.size w w':=by
  rcases line_is a h1 hz (a.f2.size + a.f1.toNat + 5) (by omega) with ⟨hg,h⟩ | ⟨hg,s,h⟩
  · refine (rebusref24_line.calls _ a.f0 a.f1 a.f2 _ _ w h).mono ?_
    rintro e w' ⟨rfl,hb⟩
    exact ⟨⟨_,by rw [hg],fun _=>rfl⟩,hb⟩
  · refine (rebusref24_line.calls _ a.f0 a.f1 a.f2 _ _ w h).mono ?_
    rintro e w' ⟨rfl,hb⟩
    exact ⟨⟨_,by rw [hg],fun e=>by rw [hg] at e;cases e⟩,hb⟩
abbrev nmB : List ByteArray:=[(⟨#[]⟩ : ByteArray),(⟨#[116,121,112,101]⟩ : ByteArray),(⟨#[119,105,112,101]⟩ : ByteArray),(⟨#[109,111,118,101]⟩ : ByteArray),(⟨#[115,119,97,112]⟩ : ByteArray),(⟨#[112,101,110,99,105,108]⟩ : ByteArray),(⟨#[114,101,118,101,97,108]⟩ : ByteArray),(⟨#[99,108,101,97,114]⟩ : ByteArray)]
theorem names_calls {w : World} : Calls Tryz.prog 44 #[] w fun e w'=>(∃ A c,e = .returned (.slice A 8 c) ∧ Kd.R Kd.string 9 w' w.heap.size (fun _=>True) (.slice A 8 c) nmB) ∧ Below w.heap.size w w':=by
  refine (rebusref24_names.calls nmB w rfl).mono ?_
  rintro e w' ⟨v,rfl,hR,hb⟩
  obtain ⟨A,c,rfl⟩:=Kd.R_slice hR
  exact ⟨⟨A,c,rfl,hR⟩,hb⟩
theorem rest_list (s : ByteArray) (h : 5 ≤ s.size) : (s.extract 5 s.size).data.toList = s.data.toList.drop 5:=by
  simp [ByteArray.data_extract,Array.toList_extract]
  exact List.take_of_length_le (by rw [List.length_drop,Array.length_toList];exact Nat.le_refl _)
theorem head_list (s : ByteArray) (h : 5 ≤ s.size) : (s.extract 0 5).toList = s.data.toList.take 5:=by
  rw [ByteArray.toList_eq]
  simp [ByteArray.data_extract,Array.toList_extract]
theorem dec_snoc {l : List UInt8} {n : Nat} (h : Lib.decFrom 0 l = some n) {b : UInt8} (h0 : 48 ≤ b.toNat) (h1 : b.toNat ≤ 57) : Lib.decFrom 0 (l ++ [b]) = some (n * 10 + (b.toNat - 48)):=by
  rw [decFrom_append,h]
  have hd:=digit_val (d:=b.toNat - 48) (by omega)
  have hb : UInt8.ofNat (48 + (b.toNat - 48)) = b:=by
    refine UInt8.toNat_inj.1 ?_
    rw [UInt8.toNat_ofNat']
    omega
  rw [hb] at hd
  simp only [Option.bind_some,Lib.decFrom,hd]
def ActIs (s : List UInt8) (a : Act3) (b : Bool) : Prop:=(b = true → GoodB a ∧ lineL a = s) ∧ (b = false → ∀ x,GoodB x → lineL x ≠ s)
def ActPost (s : ByteArray) (w : World) (e : Ending) (w' : World) : Prop:=(∃ (a : Act3) (b : Bool),e = .returned (.tuple #[.agg #[.int .i64 a.f0,.int .i64 a.f1,.string a.f2],.bool b]) ∧ ActIs s.data.toList a b) ∧ Below w.heap.size w w'
set_option maxHeartbeats 8000000 in
set_option maxRecDepth 1000000 in
theorem ract_calls {s : ByteArray} {w : World} (hs : s.size ≤ 65536) (hno : ∀ b ∈ s.data.toList,b ≠ 10) :
    Calls Tryz.prog 27 #[.string s] w (ActPost s w):=by
  have hx:=box1 w (.cells #[.int .i64 0,.int .i64 0,.string ⟨#[]⟩] 35)
  replace hx:=Lib.hid hx
  have hu:=Tryz.underlying35
  have hsz : s.size = s.data.toList.length:=ba_len rfl
  replace hsz:=Lib.hid hsz
  replace hno:=Lib.hid hno
  go_enter Tryz.func27,Tryz.ntmps27
  go_wp2_with (first
    | (go_at_call 44;go_must (refine names_calls.mono ?_;rintro e w2 ⟨⟨An,cn,rfl,hN⟩,hb⟩;have hN2:=Lib.hid hN;have hB2:=Lib.hid (below_step hx.out.2 hb);have X2:=Lib.hid (blk_below hx.out.1 hb);clear hb hN)))
  go_loopw [5] (fun v5 wr=>∃ q : Int,v5 = .int .i64 q ∧ Hid (2 ≤ q ∧ q ≤ 8) ∧ Hid (∀ k,2 ≤ k → k < q → k ≠ 3 → s.data.toList ≠ nmL k) ∧ Hid (wr.heap[w.heap.size]? = some (.cells #[.int .i64 0,.int .i64 0,.string ⟨#[]⟩] 35 (0,0))) ∧ Hid (Below w2.heap.size w2 wr) ∧ Hid (Below w.heap.size w wr)) (fun v5 _=>8 - (intOf v5).toNat)
  case atStart=>exact ⟨2,rfl,Lib.hid (by decide),Lib.hid (fun k h1 h2=>absurd h1 (by omega)),X2,Lib.hid (Below.refl _ _),hB2⟩
  case round =>
    obtain ⟨q,rfl,hq,hnk,hX,hBn,hB⟩:=hrel
    have tx:=cells3 hX.out
    have tf:=frozen3 hX.out
    by_cases hlt : q ≤ 7
    · have hq3 : q < 100:=by omega
      have hq0 : 0 ≤ q:=by have:=hq.out;omega
      have hq8 : q < ((nmB.length : Nat) : Int):=by show q < 8;omega
      have hq8b : q < 8:=by omega
      by_cases h3 : q = 3
      · have k3 : (q != 3) = false:=by rw [h3];rfl
        replace h3:=Lib.hid h3
        go_wp2
        refine ⟨⟨q + 1,rfl,Lib.hid ⟨by have:=hq.out;omega,by omega⟩,Lib.hid (fun k h1 h2 h4=>?_),hX,hBn,hB⟩,?_⟩
        · exact hnk.out k h1 (by have:=h3.out;omega) h4
        · simp only [intOf];have:=hq.out;omega
      · have k3 : (q != 3) = true:=by simpa using h3
        have hkd : q = 2 ∨ q = 4 ∨ q = 5 ∨ q = 6 ∨ q = 7:=by have:=hq.out;omega
        obtain ⟨ad,eA,z0⟩:=Kd.at_string (Kd.R_reads' (Kd.R_below hN2.out hBn.out)).2.2 q hq0 hq8
        cases eA
        have hnm : rdOf ByteArray.empty nmB q = plainB q:=names_at hkd
        rw [hnm] at z0
        have hbq:=beq_nm (s:=s) rfl q
        replace hkd:=Lib.hid hkd
        clear h3 hnm
        by_cases he : s.data.toList = nmL q
        · rw [decide_eq_true he] at hbq
          replace he:=Lib.hid he
          go_wp2_with (first
            | ((with_reducible refine gate_store (t:=35) (p:=2) (v:=.tmp 28) rfl ?_);go_must (refine store_event (w1:=put3 wr w.heap.size (.int .i64 q) (.int .i64 0) (.string ⟨#[]⟩)) (by rfl) (by rfl) (by rfl) ?hr ?_;(case hr=>first | (go_simp;done) | (go_simp;rfl));intro w5 hw5;have Fw5:=put3_facts hX.out (.int .i64 q) (.int .i64 0) (.string ⟨#[]⟩);rw [← hw5] at Fw5;clear hw5)))
          refine bodyPost_ret (results_ct rfl _ _ w.heap.size 35 #[.int .i64 q,.int .i64 0,.string ⟨#[]⟩] (0,0) _ rfl Fw5.1 Tryz.underlying35 rfl (by kernel_rfl)) rfl ?_
          have hgn:=good_nm hkd.out
          exact ⟨⟨⟨q,0,⟨#[]⟩⟩,true,rfl,⟨fun _=>⟨hgn.1,hgn.2.trans he.out.symm⟩,(fun h=>by cases h)⟩⟩,Fw5.2.2 _ _ hB.out (Nat.le_refl _)⟩
        · rw [decide_eq_false he] at hbq
          replace he:=Lib.hid he
          go_wp2
          refine ⟨⟨q + 1,rfl,Lib.hid ⟨by have:=hq.out;omega,by omega⟩,Lib.hid (fun k h1 h2 h4=>?_),hX,hBn,hB⟩,?_⟩
          · by_cases hkq : k = q
            · rw [hkq];exact he.out
            · exact hnk.out k h1 (by omega) h4
          · simp only [intOf];have:=hq.out;omega
    · have hq8 : q = 8:=by have:=hq.out;omega
      subst hq8
      have hnk2 : ∀ x,GoodB x → lineL x = s.data.toList → (∃ r,r ≠ [] ∧ s.data.toList = tyL ++ r) ∨ (∃ n : Nat,n < 1000000000 ∧ s.data.toList = mvL ++ Lib.decDigits n):=fun x hg hl=>by
        rcases good_line hg hl with ⟨k,hk,e⟩ | h | h
        · exact absurd e (hnk.out k (by omega) (by omega) (by omega))
        · exact .inl h
        · exact .inr h
      replace hnk2:=Lib.hid hnk2
      clear hnk hBn
      by_cases h6 : s.size < 6
      · have k6 : decide ((s.size : Int) < 6) = true:=decide_eq_true (by omega)
        go_wp2_with (first
          | ((with_reducible refine gate_store (t:=35) (p:=2) (v:=.tmp 32) rfl ?_);go_must (refine store_event (w1:=put3 wr w.heap.size (.int .i64 0) (.int .i64 0) (.string ⟨#[]⟩)) (by rfl) (by rfl) (by rfl) ?hr ?_;(case hr=>first | (go_simp;done) | (go_simp;rfl));intro w5 hw5;have Fw5:=put3_facts hX.out (.int .i64 0) (.int .i64 0) (.string ⟨#[]⟩);rw [← hw5] at Fw5;clear hw5)))
        refine bodyPost_ret (results_ct rfl _ _ w.heap.size 35 #[.int .i64 0,.int .i64 0,.string ⟨#[]⟩] (0,0) _ rfl Fw5.1 Tryz.underlying35 rfl (by kernel_rfl)) rfl ?_
        refine ⟨⟨⟨0,0,⟨#[]⟩⟩,false,rfl,⟨(fun h=>by cases h),fun _ x hg hl=>?_⟩⟩,Fw5.2.2 _ _ hB.out (Nat.le_refl _)⟩
        rcases hnk2.out x hg hl with ⟨r,hr,e⟩ | ⟨n,hn,e⟩
        · have h1:=congrArg List.length e
          rw [List.length_append,show tyL.length = 5 from rfl] at h1
          have h2:=List.length_pos_iff.2 hr
          have:=hsz.out
          omega
        · have h1:=congrArg List.length e
          rw [List.length_append,show mvL.length = 5 from rfl] at h1
          have h2:=List.length_pos_iff.2 (dec_ne n)
          have:=hsz.out
          omega
      · have k6 : decide ((s.size : Int) < 6) = false:=decide_eq_false (by omega)
        have k5 : 5 ≤ (s.size : Int):=by omega
        have k5n : 5 ≤ s.size:=by omega
        have k5b : decide (5 ≤ (s.size : Int)) = true:=decide_eq_true k5
        obtain ⟨rs,hrs⟩ : ∃ r,s.extract 5 s.size = r:=⟨_,rfl⟩
        have hrl : rs.data.toList = s.data.toList.drop 5:=by rw [← hrs];exact rest_list s k5n
        have hcat : s.data.toList.take 5 ++ rs.data.toList = s.data.toList:=by rw [hrl];exact List.take_append_drop 5 _
        have hrz : rs.size + 5 = s.size:=by
          have h1 : rs.size = rs.data.toList.length:=ba_len rfl
          rw [h1,hrl,List.length_drop]
          have:=hsz.out
          omega
        have hhl:=head_list s k5n
        replace hrl:=Lib.hid hrl
        replace hcat:=Lib.hid hcat
        by_cases ht : s.data.toList.take 5 = tyL
        · have kt : ((s.extract 0 5).toList == ([116,121,112,101,32] : List UInt8)) = true:=by rw [hhl,ht];rfl
          replace ht:=Lib.hid ht
          clear hhl
          go_wp2_with (first
            | ((with_reducible refine gate_store (t:=35) (p:=2) (v:=.tmp 39) rfl ?_);go_must (refine store_event (w1:=put3 wr w.heap.size (.int .i64 1) (.int .i64 0) (.string (s.extract 5 s.size))) (by rfl) (by rfl) (by rfl) ?hr ?_;(case hr=>first | (go_simp;done) | (go_simp;rfl));intro w5 hw5;have Fw5:=put3_facts hX.out (.int .i64 1) (.int .i64 0) (.string (s.extract 5 s.size));rw [← hw5] at Fw5;clear hw5)))
          refine bodyPost_ret (results_ct rfl _ _ w.heap.size 35 #[.int .i64 1,.int .i64 0,.string (s.extract 5 s.size)] (0,0) _ rfl Fw5.1 Tryz.underlying35 rfl (by kernel_rfl)) rfl ?_
          have hgt:=good_ty (r:=rs) (fun e=>by have h1 : rs.size = rs.data.toList.length:=(ba_len rfl);rw [e,List.length_nil] at h1;omega) (fun b hb=>hno.out b (by rw [← hcat.out];exact List.mem_append_right _ hb))
          try rw [hrs]
          exact ⟨⟨⟨1,0,rs⟩,true,rfl,⟨fun _=>⟨hgt.1,by rw [hgt.2,← ht.out];exact hcat.out⟩,(fun h=>by cases h)⟩⟩,Fw5.2.2 _ _ hB.out (Nat.le_refl _)⟩
        · have kt : ((s.extract 0 5).toList == ([116,121,112,101,32] : List UInt8)) = false:=by rw [hhl];exact beq_eq_false_iff_ne.2 ht
          have hmv : ∀ x,GoodB x → lineL x = s.data.toList → ∃ n : Nat,n < 1000000000 ∧ rs.data.toList = Lib.decDigits n ∧ s.data.toList = mvL ++ Lib.decDigits n:=fun x hg hl=>by
            rcases hnk2.out x hg hl with ⟨r,hr,e⟩ | ⟨n,hn,e⟩
            · exact absurd (by rw [e];rfl) ht
            · exact ⟨n,hn,by rw [hrl.out,e];rfl,e⟩
          replace hmv:=Lib.hid hmv
          clear hhl ht hnk2
          go_wp2
          try rw [hrs]
          clear kt k6 k5 k5b k5n hrs tx tf
          have hrz9 : rs.size ≤ 65536:=by omega
          go_loopw [7,8] (fun v7 v8 wr2=>∃ (n i : Nat) (y z : Int),v7 = .int .i64 y ∧ v8 = .int .i64 z ∧ Hid (y = n ∧ z = i ∧ i ≤ rs.size ∧ n < 10 ^ i ∧ (0 < i → rs.size ≤ 9)) ∧ Hid (Lib.decFrom 0 (rs.data.toList.take i) = some n) ∧ Hid (wr2.heap[w.heap.size]? = some (.cells #[.int .i64 0,.int .i64 0,.string ⟨#[]⟩] 35 (0,0))) ∧ Hid (Below w.heap.size w wr2)) (fun _ v8 _=>rs.size - (intOf v8).toNat)
          case atStart=>exact ⟨0,0,0,0,rfl,rfl,Lib.hid ⟨rfl,rfl,Nat.zero_le _,by decide,fun h=>absurd h (by decide)⟩,Lib.hid rfl,hX,hB⟩
          case round =>
            clear hX hB
            obtain ⟨n,i,y,z,rfl,rfl,hq,hd,hX,hB⟩:=hrel
            have tx:=cells3 hX.out
            have tf:=frozen3 hX.out
            have hz0 : 0 ≤ z:=by have:=hq.out.2.1;omega
            by_cases hlt : i < rs.size
            · have hz1 : z < (rs.size : Int):=by have:=hq.out.2.1;omega
              have hz2 : z < 65536:=by omega
              have hbt:=bt_at rs z
              obtain ⟨b,hb⟩ : ∃ b,rs.data.toList[i]'(by rw [Array.length_toList];exact hlt) = b:=⟨_,rfl⟩
              have hbb : bt rs z = (b.toNat : Int):=by rw [hq.out.2.1,bt_nat rs i hlt,hb]
              have hb255:=b.toNat_lt
              have hmemb : b ∈ rs.data.toList:=by rw [← hb];exact List.getElem_mem _
              rw [hbb] at hbt
              obtain ⟨bz,hbz⟩ : ∃ x : Int,(b.toNat : Int) = x:=⟨_,rfl⟩
              rw [hbz] at hbt
              have hz1b : decide (z < (rs.size : Int)) = true:=decide_eq_true hz1
              replace hlt:=Lib.hid hlt
              replace hmemb:=Lib.hid hmemb
              replace hbz:=Lib.hid hbz
              have hbz0 : 0 ≤ bz ∧ bz ≤ 255:=by have:=hbz.out;omega
              replace hb:=Lib.hid hb
              clear hbb
              by_cases c1 : bz < 48
              · have d1 : decide (bz < 48) = true:=decide_eq_true c1
                go_wp2_with (first
                  | ((with_reducible refine gate_store (t:=35) (p:=2) (v:=.tmp 61) rfl ?_);go_must (refine store_event (w1:=put3 wr w.heap.size (.int .i64 0) (.int .i64 0) (.string ⟨#[]⟩)) (by rfl) (by rfl) (by rfl) ?hr ?_;(case hr=>first | (go_simp;done) | (go_simp;rfl));intro w5 hw5;have Fw5:=put3_facts hX.out (.int .i64 0) (.int .i64 0) (.string ⟨#[]⟩);rw [← hw5] at Fw5;clear hw5)))
                refine bodyPost_ret (results_ct rfl _ _ w.heap.size 35 #[.int .i64 0,.int .i64 0,.string ⟨#[]⟩] (0,0) _ rfl Fw5.1 Tryz.underlying35 rfl (by kernel_rfl)) rfl ?_
                refine ⟨⟨⟨0,0,⟨#[]⟩⟩,false,rfl,⟨(fun h=>by cases h),fun _ x hg hl=>?_⟩⟩,Fw5.2.2 _ _ hB.out (Nat.le_refl _)⟩
                obtain ⟨n0,hn0,e1,e2⟩:=hmv.out x hg hl
                have:=dec_digits n0 b (by rw [← e1];exact hmemb.out)
                have:=hbz.out
                omega
              · have d1 : decide (bz < 48) = false:=decide_eq_false c1
                by_cases c2 : bz > 57
                · have d2 : decide (bz > 57) = true:=decide_eq_true c2
                  have d2b : decide (57 < bz) = true:=decide_eq_true c2
                  go_wp2_with (first
                    | ((with_reducible refine gate_store (t:=35) (p:=2) (v:=.tmp 61) rfl ?_);go_must (refine store_event (w1:=put3 wr w.heap.size (.int .i64 0) (.int .i64 0) (.string ⟨#[]⟩)) (by rfl) (by rfl) (by rfl) ?hr ?_;(case hr=>first | (go_simp;done) | (go_simp;rfl));intro w5 hw5;have Fw5:=put3_facts hX.out (.int .i64 0) (.int .i64 0) (.string ⟨#[]⟩);rw [← hw5] at Fw5;clear hw5)))
                  refine bodyPost_ret (results_ct rfl _ _ w.heap.size 35 #[.int .i64 0,.int .i64 0,.string ⟨#[]⟩] (0,0) _ rfl Fw5.1 Tryz.underlying35 rfl (by kernel_rfl)) rfl ?_
                  refine ⟨⟨⟨0,0,⟨#[]⟩⟩,false,rfl,⟨(fun h=>by cases h),fun _ x hg hl=>?_⟩⟩,Fw5.2.2 _ _ hB.out (Nat.le_refl _)⟩
                  obtain ⟨n0,hn0,e1,e2⟩:=hmv.out x hg hl
                  have:=dec_digits n0 b (by rw [← e1];exact hmemb.out)
                  have:=hbz.out
                  omega
                · have d2 : decide (bz > 57) = false:=decide_eq_false c2
                  have d2b : decide (57 < bz) = false:=decide_eq_false c2
                  by_cases c3 : rs.size > 9
                  · have d3 : decide ((rs.size : Int) > 9) = true:=decide_eq_true (by omega)
                    have d3b : decide (9 < (rs.size : Int)) = true:=decide_eq_true (by omega)
                    go_wp2_with (first
                      | ((with_reducible refine gate_store (t:=35) (p:=2) (v:=.tmp 61) rfl ?_);go_must (refine store_event (w1:=put3 wr w.heap.size (.int .i64 0) (.int .i64 0) (.string ⟨#[]⟩)) (by rfl) (by rfl) (by rfl) ?hr ?_;(case hr=>first | (go_simp;done) | (go_simp;rfl));intro w5 hw5;have Fw5:=put3_facts hX.out (.int .i64 0) (.int .i64 0) (.string ⟨#[]⟩);rw [← hw5] at Fw5;clear hw5)))
                    refine bodyPost_ret (results_ct rfl _ _ w.heap.size 35 #[.int .i64 0,.int .i64 0,.string ⟨#[]⟩] (0,0) _ rfl Fw5.1 Tryz.underlying35 rfl (by kernel_rfl)) rfl ?_
                    refine ⟨⟨⟨0,0,⟨#[]⟩⟩,false,rfl,⟨(fun h=>by cases h),fun _ x hg hl=>?_⟩⟩,Fw5.2.2 _ _ hB.out (Nat.le_refl _)⟩
                    obtain ⟨n0,hn0,e1,e2⟩:=hmv.out x hg hl
                    have h1:=dec_len 8 n0 hn0
                    have h2 : rs.size = rs.data.toList.length:=ba_len rfl
                    rw [e1] at h2
                    omega
                  · have d3 : decide ((rs.size : Int) > 9) = false:=decide_eq_false (by omega)
                    have d3b : decide (9 < (rs.size : Int)) = false:=decide_eq_false (by omega)
                    have hnb : n < 1000000000:=by
                      have h1 : i ≤ 9:=by have:=hlt.out;omega
                      have h2 : 10 ^ i ≤ 10 ^ 9:=Nat.pow_le_pow_right (by decide) h1
                      have:=hq.out.2.2.2.1
                      omega
                    have hyb : 0 ≤ y ∧ y < 1000000000:=by have:=hq.out.1;omega
                    have m1 : wrap64 (y * 10) = y * 10:=w64 (by omega) (by omega)
                    have m2 : (bz - 48) % 256 = bz - 48:=by omega
                    have m3 : wrap64 (y * 10 + (bz - 48)) = y * 10 + (bz - 48):=w64 (by omega) (by omega)
                    go_wp2
                    refine ⟨⟨n * 10 + (b.toNat - 48),i + 1,_,_,rfl,rfl,Lib.hid ⟨?_,?_,hlt.out,?_,fun _=>by omega⟩,Lib.hid ?_,hX,hB⟩,?_⟩
                    · first | (rw [m1,m2,m3];have:=hbz.out;have:=hq.out.1;omega) | (have:=hbz.out;have:=hq.out.1;omega)
                    · have:=hq.out.2.1;omega
                    · have h5:=hq.out.2.2.2.1
                      rw [Nat.pow_succ]
                      have:=hbz.out
                      omega
                    · have h6 : rs.data.toList.take (i + 1) = rs.data.toList.take i ++ [b]:=by rw [← hb.out];exact (List.take_append_getElem _).symm
                      rw [h6]
                      exact dec_snoc hd.out (by have:=hbz.out;omega) (by have:=hbz.out;omega)
                    · simp only [intOf];have:=hq.out.2.1;have:=hlt.out;omega
            · have hi : i = rs.size:=by have:=hq.out.2.2.1;omega
              have hz1 : ¬ z < (rs.size : Int):=by have:=hq.out.2.1;omega
              have hz1b : decide (z < (rs.size : Int)) = false:=decide_eq_false hz1
              have hnb : n < 1000000000:=by
                have h1 : i ≤ 9:=by have:=hq.out.2.2.2.2;omega
                have h2 : 10 ^ i ≤ 10 ^ 9:=Nat.pow_le_pow_right (by decide) h1
                have:=hq.out.2.2.2.1
                omega
              have hdn : Lib.decFrom 0 rs.data.toList = some n:=by
                have h1 : rs.data.toList.take i = rs.data.toList:=List.take_of_length_le (by rw [Array.length_toList,hi];exact Nat.le_refl _)
                have h2:=hd.out
                rwa [h1] at h2
              obtain rfl : y = (n : Int):=hq.out.1
              have hgm:=good_mv hnb
              have hX9:=box1 wr (.cells #[.int .i64 3,.int .i64 (n : Int),.string ⟨#[]⟩] 35)
              have x9:=cells3 hX9.1
              have X1:=Lib.hid (blk_below hX.out hX9.2)
              have B1:=Lib.hid (below_step hB.out hX9.2)
              replace hX9:=Lib.hid hX9
              replace hgm:=Lib.hid hgm
              replace hdn:=Lib.hid hdn
              clear hi hd tx tf
              have hln:=rline_calls (a:=⟨3,(n : Int),⟨#[]⟩⟩) (w:=wr.alloc (.cells #[.int .i64 3,.int .i64 (n : Int),.string ⟨#[]⟩] 35)) (by show (n : Int) ≤ _;omega) (by show 0 ≤ _;omega)
              rw [hgm.out.1.1] at hln
              obtain ⟨tl,htl⟩ : ∃ t : ByteArray,(⟨(lineL ⟨3,(n : Int),⟨#[]⟩⟩).toArray⟩ : ByteArray) = t:=⟨_,rfl⟩
              have htl2 : tl.toList = mvL ++ Lib.decDigits n:=by rw [← htl,ByteArray.toList_eq];exact hgm.out.2
              obtain ⟨bq,hbq⟩ : ∃ b,(tl.toList == s.toList) = b:=⟨_,rfl⟩
              replace hln:=Lib.hid hln
              replace htl:=Lib.hid htl
              replace htl2:=Lib.hid htl2
              go_wp2_with (first
                | (go_at_call 24;go_must (refine hln.out.mono ?_;rintro e w4 ⟨⟨tt,rfl,ht⟩,hb⟩;have ht2:=ht rfl;rw [htl.out] at ht2;subst ht2;have hB4:=Lib.hid (below_step B1.out hb);have X4:=Lib.hid (blk_below X1.out hb);have x4:=cells3 X4.out;have f4:=frozen3 X4.out;have x9b:=cells3 (blk_below hX9.out.1 hb);clear hb x9 ht))
                | ((with_reducible refine gate_store (t:=35) (p:=2) (v:=.tmp 77) rfl ?_);go_must (refine store_event (w1:=put3 w4 w.heap.size (.int .i64 3) (.int .i64 (n : Int)) (.string ⟨#[]⟩)) (by rfl) (by rfl) (by rfl) ?hr ?_;(case hr=>first | (go_simp;done) | (go_simp;rfl));intro w5 hw5;have Fw5:=put3_facts X4.out (.int .i64 3) (.int .i64 (n : Int)) (.string ⟨#[]⟩);rw [← hw5] at Fw5;clear hw5)))
              refine bodyPost_ret (results_ct rfl _ _ w.heap.size 35 #[.int .i64 3,.int .i64 (n : Int),.string ⟨#[]⟩] (0,0) _ rfl Fw5.1 Tryz.underlying35 rfl (by kernel_rfl)) rfl ?_
              refine ⟨⟨⟨3,(n : Int),⟨#[]⟩⟩,bq,rfl,⟨fun h=>⟨hgm.out.1,?_⟩,fun h x hg hl=>?_⟩⟩,Fw5.2.2 _ _ hB4.out (Nat.le_refl _)⟩
              · rw [h] at hbq
                have h2:=eq_of_beq hbq
                rw [htl2.out,ByteArray.toList_eq] at h2
                rw [hgm.out.2,h2]
              · obtain ⟨m,hm,e1,e2⟩:=hmv.out x hg hl
                have h1:=hdn.out
                rw [e1,dec_from] at h1
                injection h1 with h1
                rw [h] at hbq
                refine beq_eq_false_iff_ne.1 hbq ?_
                rw [htl2.out,ByteArray.toList_eq,e2,h1]
end Go.Proofs.YtjopbfidjapmbaaGreatDoor.Q
end
section
namespace Go.Proofs.YtjopbfidjapmbaaGreatDoor.Q
open Go.RowKit Go.Proofs.YtjopbfidjapmbaaGreatDoorW.PrintWords Go.Proofs.YtjopbfidjapmbaaGreatDoorW.PrintLast Go.Proofs.YtjopbfidjapmbaaGreatDoorW.PrintMore
set_option linter.unusedVariables false
set_option linter.unusedSimpArgs false
open Go.Proofs.YtjopbfidjapmbaaGreatDoorS
theorem ract_yes {s : ByteArray} {w : World} (hs : s.size ≤ 65536) (hno : ∀ b ∈ s.data.toList,b ≠ 10) {a : Act3} (hg : GoodB a) (hl : lineL a = s.data.toList) :
    Calls Tryz.prog 27 #[.string s] w fun e w'=>e = .returned (.tuple #[.agg #[.int .i64 a.f0,.int .i64 a.f1,.string a.f2],.bool true]) ∧ Below w.heap.size w w':=by
  refine (ract_calls hs hno).mono ?_
  rintro e w' ⟨⟨x,b,rfl,h1,h2⟩,hb⟩
  cases b with
  | false=>exact absurd hl (h2 rfl a hg)
  | true =>
    obtain ⟨h3,h4⟩:=h1 rfl
    have h5:=line_inj h3.1 hg.1 (h4.trans hl.symm)
    rw [h5]
    exact ⟨rfl,hb⟩
theorem ract_no {s : ByteArray} {w : World} (hs : s.size ≤ 65536) (hno : ∀ b ∈ s.data.toList,b ≠ 10) (h : ∀ x,GoodB x → lineL x ≠ s.data.toList) :
    Calls Tryz.prog 27 #[.string s] w fun e w'=>(∃ a : Act3,e = .returned (.tuple #[.agg #[.int .i64 a.f0,.int .i64 a.f1,.string a.f2],.bool false])) ∧ Below w.heap.size w w':=by
  refine (ract_calls hs hno).mono ?_
  rintro e w' ⟨⟨x,b,rfl,h1,h2⟩,hb⟩
  cases b with
  | true=>exact absurd (h1 rfl).2 (h x (h1 rfl).1)
  | false=>exact ⟨⟨x,rfl⟩,hb⟩
theorem cur_step {T : List UInt8} {f i : Nat} (hi : i < T.length) (hf : f ≤ i) : (T.drop f).take (i + 1 - f) = (T.drop f).take (i - f) ++ [T[i]]:=by
  have h : i - f < (T.drop f).length:=by rw [List.length_drop];omega
  have e : i + 1 - f = (i - f) + 1:=by omega
  rw [e,← List.take_append_getElem h]
  congr 2
  rw [List.getElem_drop]
  congr 1
  omega
theorem cur_take {T : List UInt8} {f i : Nat} (hi : i < T.length) (hf : f ≤ i) : T.take (i + 1) = T.take f ++ ((T.drop f).take (i - f) ++ [T[i]]):=by
  rw [← cur_step hi hf]
  have : T.take (i + 1) = (T.take (f + (i + 1 - f))):=by congr 1;omega
  rw [this,List.take_add]
theorem cur_drop {T : List UInt8} {f i : Nat} (hi : i < T.length) (hf : f ≤ i) : T.drop f = (T.drop f).take (i - f) ++ T[i] :: T.drop (i + 1):=by
  have h:=(List.take_append_drop (i - f) (T.drop f)).symm
  have e : (T.drop f).drop (i - f) = T[i] :: T.drop (i + 1):=by
    rw [List.drop_drop,show f + (i - f) = i by omega]
    exact List.drop_eq_getElem_cons hi
  rw [e] at h
  exact h
theorem extract_list (s : ByteArray) (f i : Nat) (hi : i ≤ s.size) (hf : f ≤ i) : (s.extract f i).data.toList = (s.data.toList.drop f).take (i - f):=by
  simp [ByteArray.data_extract,Array.toList_extract]
structure RdAt (T : List UInt8) (l : List Act3) (f i : Nat) : Prop where
  g : ∀ a ∈ l,GoodB a
  t : T.take f = joinL l
  le : f ≤ i
  fl : f ≤ T.length
  il : i ≤ T.length + 1
  en : i = T.length + 1 → f = T.length
  no : ∀ b ∈ (T.drop f).take (i - f),b ≠ 10
theorem RdAt.step {T : List UInt8} {l : List Act3} {f i : Nat} (h : RdAt T l f i) (hi : i < T.length) (hb : T[i] ≠ 10) : RdAt T l f (i + 1) :=
  ⟨h.g,h.t,Nat.le_succ_of_le h.le,h.fl,by omega,fun e=>by omega,fun b hm=>by
    rw [cur_step hi h.le] at hm
    rcases List.mem_append.1 hm with hm | hm
    · exact h.no b hm
    · rw [List.mem_singleton.1 hm];exact hb⟩
theorem RdAt.line {T : List UInt8} {l : List Act3} {f i : Nat} (h : RdAt T l f i) (hi : i < T.length) (hb : T[i] = 10) {a : Act3} (hg : GoodB a) (hl : lineL a = (T.drop f).take (i - f)) : RdAt T (l ++ [a]) (i + 1) (i + 1) :=
  ⟨fun b hm=>by
    rcases List.mem_append.1 hm with hm | hm
    · exact h.g b hm
    · rw [List.mem_singleton.1 hm];exact hg,by rw [cur_take hi h.le,h.t,hb,← hl,joinL_snoc],Nat.le_refl _,by omega,by omega,fun e=>by omega,fun b hm=>by rw [Nat.sub_self,List.take_zero] at hm;cases hm⟩
theorem RdAt.last {T : List UInt8} {l : List Act3} {f : Nat} (h : RdAt T l f T.length) (hf : f = T.length) : RdAt T l f (T.length + 1) :=
  ⟨h.g,h.t,by omega,by omega,by omega,fun _=>hf,fun b hm=>by rw [List.drop_of_length_le (by omega)] at hm;simp at hm⟩
theorem RdAt.len {T : List UInt8} {l : List Act3} {f i : Nat} (h : RdAt T l f i) : l.length ≤ T.length:=by
  have h1:=join_ge l
  rw [← h.t,List.length_take] at h1
  omega
theorem RdAt.bad {text : ByteArray} {l : List Act3} {f i : Nat} (hs : text.size ≤ 65536) (h : RdAt text.data.toList l f i) (hi : i < text.data.toList.length) (hb : text.data.toList[i] = 10) (hx : ∀ x,GoodB x → lineL x ≠ (text.data.toList.drop f).take (i - f)) : RdIs text [] (l.length : Int) 221:=by
  refine .inr ⟨hs,.inr ⟨l,text.data.toList.drop f,?_,⟨h.g,?_,?_⟩,rfl,rfl,rfl⟩⟩
  · rw [cur_drop hi h.le]
    exact List.append_ne_nil_of_right_ne_nil _ (by simp)
  · rw [← h.t,List.take_append_drop]
  · rw [cur_drop hi h.le,hb]
    exact stuck_line h.no hx
theorem RdAt.open {text : ByteArray} {l : List Act3} {f : Nat} (hs : text.size ≤ 65536) (h : RdAt text.data.toList l f text.data.toList.length) (hf : f < text.data.toList.length) : RdIs text [] (l.length : Int) 221:=by
  have e : (text.data.toList.drop f).take (text.data.toList.length - f) = text.data.toList.drop f:=List.take_of_length_le (by rw [List.length_drop];exact Nat.le_refl _)
  have hn:=h.no
  rw [e] at hn
  refine .inr ⟨hs,.inr ⟨l,text.data.toList.drop f,fun e2=>?_,⟨h.g,?_,stuck_open hn⟩,rfl,rfl,rfl⟩⟩
  · have:=congrArg List.length e2
    rw [List.length_drop,List.length_nil] at this
    omega
  · rw [← h.t,List.take_append_drop]
theorem RdAt.done {text : ByteArray} {l : List Act3} {f : Nat} (hs : text.size ≤ 65536) (h : RdAt text.data.toList l f (text.data.toList.length + 1)) : RdIs text l 0 0:=by
  refine .inr ⟨hs,.inl ⟨⟨h.g,?_,stuck_nil⟩,rfl,rfl⟩⟩
  rw [List.append_nil,← h.t]
  exact (List.take_of_length_le (by have:=h.en rfl;omega)).symm
set_option maxHeartbeats 8000000 in
set_option maxRecDepth 1000000 in
theorem rread_calls {text : ByteArray} {w : World} :
    Calls Tryz.prog 10 #[.string text] w fun e w'=>∃ u log r c,e = .returned (.tuple #[u,.int .i64 r,.int .i64 c]) ∧ RdIs text log r c ∧ log.length ≤ 65536 ∧ Kd.R kAct 35 w' w.heap.size (fun _=>True) u log ∧ Below w.heap.size w w':=by
  have hu:=Tryz.underlying35
  by_cases hs : text.size ≤ 65536
  rotate_left
  · have k1 : decide ((text.size : Int) > 65536) = true:=decide_eq_true (by omega)
    have k2 : decide (65536 < (text.size : Int)) = true:=decide_eq_true (by omega)
    go_enter Tryz.func10,Tryz.ntmps10
    go_wp2
    go_ret3
    exact ⟨_,[],0,1,rfl,.inl ⟨by omega,rfl,rfl,rfl⟩,Nat.zero_le _,Kd.R_nil _ _ _ _ _,Below.refl _ _⟩
  have k1 : decide ((text.size : Int) > 65536) = false:=decide_eq_false (by omega)
  have k2 : decide (65536 < (text.size : Int)) = false:=decide_eq_false (by omega)
  have hTl : text.data.toList.length = text.size:=(ba_len rfl).symm
  go_enter Tryz.func10,Tryz.ntmps10
  go_wp2
  go_loopw [5,6,7] (fun v5 v6 v7 wr=>∃ (l : List Act3) (f i : Nat) (y z : Int) (vL : Value),vL = v5 ∧ v6 = .int .i64 y ∧ v7 = .int .i64 z ∧ Hid (y = f ∧ z = i) ∧ Hid (RdAt text.data.toList l f i) ∧ Hid (Kd.R kAct 35 wr w.heap.size (fun _=>True) vL l) ∧ Hid (Below w.heap.size w wr)) (fun _ _ v7 _=>text.size + 1 - (intOf v7).toNat)
  case atStart=>exact ⟨[],0,0,0,0,_,rfl,rfl,rfl,Lib.hid ⟨rfl,rfl⟩,Lib.hid ⟨(fun a h=>by cases h),rfl,Nat.le_refl _,Nat.zero_le _,Nat.zero_le _,(fun e=>by omega),(fun b h=>by cases h)⟩,Lib.hid (Kd.R_nil _ _ _ _ _),Lib.hid (Below.refl _ _)⟩
  case round =>
    clear k1 k2
    obtain ⟨l,f,i,y,z,vL,rfl,rfl,rfl,hq,hA,hL,hB⟩:=hrel
    have hll : l.length ≤ 65536:=by have:=hA.out.len;omega
    have hfl:=hA.out.fl
    have hle:=hA.out.le
    have hil:=hA.out.il
    rw [hTl] at hfl hil
    have hz0 : 0 ≤ z:=by have:=hq.out.2;omega
    have hy0 : 0 ≤ y:=by have:=hq.out.1;omega
    have hz2 : z ≤ 65537:=by have:=hq.out.2;omega
    replace hll:=Lib.hid hll
    by_cases hlt : i < text.size
    · have hz1 : z < (text.size : Int):=by have:=hq.out.2;omega
      have hyz : y ≤ z:=by have:=hq.out;omega
      have hzs : z ≤ (text.size : Int):=by omega
      have d1 : decide (z ≤ (text.size : Int)) = true:=decide_eq_true hzs
      have d2 : decide (z < (text.size : Int)) = true:=decide_eq_true hz1
      have d3 : (z == (text.size : Int)) = false:=by rw [beq_eq_false_iff_ne];omega
      have hlT : i < text.data.toList.length:=by rw [hTl];exact hlt
      have hbt:=bt_at text z
      obtain ⟨b,hb⟩ : ∃ b,text.data.toList[i]'hlT = b:=⟨_,rfl⟩
      have hbb : bt text z = (b.toNat : Int):=by rw [hq.out.2,bt_nat text i hlt,hb]
      have hb255:=b.toNat_lt
      rw [hbb] at hbt
      obtain ⟨bz,hbz⟩ : ∃ x : Int,(b.toNat : Int) = x:=⟨_,rfl⟩
      rw [hbz] at hbt
      have hbz0 : 0 ≤ bz ∧ bz ≤ 255:=by omega
      replace hbz:=Lib.hid hbz
      clear hbb hfl hle hil
      by_cases h10 : b = 10
      · have e10 : (bz != 10) = false:=by have h1:=hbz.out;rw [h10] at h1;rw [← h1];rfl
        obtain ⟨cu,hcu⟩ : ∃ c,text.extract y.toNat z.toNat = c:=⟨_,rfl⟩
        have hcl : cu.data.toList = (text.data.toList.drop f).take (i - f):=by rw [← hcu,hq.out.1,hq.out.2,Int.toNat_natCast,Int.toNat_natCast];exact extract_list text f i (by omega) hA.out.le
        have hcn : ∀ b ∈ cu.data.toList,b ≠ 10:=by rw [hcl];exact hA.out.no
        have hcz : cu.size ≤ 65536:=by
          have h1 : cu.size = cu.data.toList.length:=ba_len rfl
          rw [h1,hcl,List.length_take,List.length_drop]
          omega
        rw [h10] at hb
        replace hcn:=Lib.hid hcn
        by_cases hgd : ∃ a,GoodB a ∧ lineL a = cu.data.toList
        · obtain ⟨a,hga,hal⟩:=hgd
          have hA2:=Lib.hid (hA.out.line hlT hb hga (hal.trans hcl))
          replace hga:=Lib.hid hga
          replace hal:=Lib.hid hal
          clear hcl hb h10
          go_wp2_with (first
            | (go_at_call 27;go_must (refine (ract_yes hcz hcn.out hga.out hal.out).mono ?_;rintro e w4 ⟨rfl,hb⟩;have hX:=box1 w4 (.cells #[.int .i64 a.f0,.int .i64 a.f1,.string a.f2] 35);have x5:=cells3 hX.1;have hB5:=Lib.hid (below_step (below_step hB.out hb) hX.2);have hL5:=Lib.hid (Kd.R_below (Kd.R_below hL.out hb) hX.2);clear hb hX))
            | ((with_reducible refine gate_builtin (b:=.append) (xs:=#[.tmp 58,.tmp 60]) rfl ?_);go_must (at_builtin;refine Kd.R_append kAct (w0:=w) w.heap.size rfl (.tmp 58) (.tmp 60) 22 35 (.agg #[.int .i64 0,.int .i64 0,.string ⟨#[]⟩]) 32 rfl Tryz.underlying22 act_info rfl (by decide) (by decide) vL l a _ (fun _=>True) (fun _=>False) rfl ?hx (k35_mkM _ _ _ a) (fun _ hk=>hk.elim) (fun _ _=>trivial) hL5.out hB5.out hB5.out.size (by have:=hll.out;omega) ?_;(case hx=>first | rfl | (go_simp;done) | (go_simp;rfl));intro v8 w7 hL7 hB7 _ _;replace hL7:=Lib.hid hL7;replace hB7:=Lib.hid hB7)))
          refine ⟨⟨l ++ [a],i + 1,i + 1,_,_,_,rfl,rfl,rfl,Lib.hid ⟨by have:=hq.out;omega,by have:=hq.out;omega⟩,hA2,hL7,hB7⟩,?_⟩
          simp only [intOf];have:=hq.out;omega
        · have hbd : ∀ a,GoodB a → lineL a ≠ cu.data.toList:=fun a h1 h2=>hgd ⟨a,h1,h2⟩
          have hR2:=Lib.hid (RdAt.bad hs hA.out hlT hb (fun x h1 h2=>hgd ⟨x,h1,h2.trans hcl.symm⟩))
          replace hbd:=Lib.hid hbd
          clear hgd hcl hb h10
          obtain ⟨AL,cL,rfl⟩:=Kd.R_slice hL.out
          go_wp2_with (first
            | (go_at_call 27;go_must (refine (ract_no hcz hcn.out hbd.out).mono ?_;rintro e w4 ⟨⟨a,rfl⟩,hb⟩;have hX:=box1 w4 (.cells #[.int .i64 a.f0,.int .i64 a.f1,.string a.f2] 35);have x5:=cells3 hX.1;have hB5:=Lib.hid (below_step (below_step hB.out hb) hX.2);have hL5:=Lib.hid (Kd.R_below (Kd.R_below hL.out hb) hX.2);clear hb hX)))
          go_ret3
          exact ⟨_,[],_,221,rfl,hR2.out,Nat.zero_le _,Kd.R_nil _ _ _ _ _,hB5.out⟩
      · have e10 : (bz != 10) = true:=by
          rw [bne_iff_ne]
          intro e
          refine h10 (UInt8.toNat_inj.1 ?_)
          have h1 : (10 : UInt8).toNat = 10:=rfl
          have:=hbz.out
          omega
        have hA2:=Lib.hid (hA.out.step hlT (by rw [hb];exact h10))
        clear hb h10
        go_wp2
        refine ⟨⟨l,f,i + 1,_,_,_,rfl,rfl,rfl,Lib.hid ⟨hq.out.1,by have:=hq.out;omega⟩,hA2,hL,hB⟩,?_⟩
        simp only [intOf];have:=hq.out;omega
    · by_cases hie : i = text.size
      · have hz1 : z = (text.size : Int):=by have:=hq.out.2;omega
        obtain ⟨sz,hsz⟩ : ∃ n : Int,(text.size : Int) = n:=⟨_,rfl⟩
        have hA1 : RdAt text.data.toList l f text.data.toList.length:=by rw [hTl,← hie];exact hA.out
        have hzs : z ≤ (text.size : Int):=by omega
        have hyz : y ≤ z:=by have:=hq.out;omega
        have d1 : decide (z ≤ (text.size : Int)) = true:=decide_eq_true hzs
        have d2 : decide (z < (text.size : Int)) = false:=decide_eq_false (by omega)
        have d3 : (z == (text.size : Int)) = true:=by rw [beq_iff_eq];exact hz1
        clear hsz sz
        by_cases hfe : f = text.size
        · have d4 : (y == z) = true:=by rw [beq_iff_eq];have:=hq.out;omega
          have hA2:=Lib.hid (show RdAt text.data.toList l f (i + 1) by rw [hie,← hTl];exact hA1.last (by omega))
          replace hz1:=Lib.hid hz1
          go_wp2
          refine ⟨⟨l,f,i + 1,_,_,_,rfl,rfl,rfl,Lib.hid ⟨hq.out.1,by have:=hq.out;omega⟩,hA2,hL,hB⟩,?_⟩
          simp only [intOf];have:=hq.out;omega
        · have d4 : (y == z) = false:=by rw [beq_eq_false_iff_ne];have:=hq.out;omega
          have hR2:=Lib.hid (hA1.open hs (by omega))
          obtain ⟨cu,hcu⟩ : ∃ c,text.extract y.toNat z.toNat = c:=⟨_,rfl⟩
          have hcl : cu.data.toList = (text.data.toList.drop f).take (i - f):=by rw [← hcu,hq.out.1,hq.out.2,Int.toNat_natCast,Int.toNat_natCast];exact extract_list text f i (by omega) hA.out.le
          have hcn : ∀ b ∈ cu.data.toList,b ≠ 10:=by rw [hcl];exact hA.out.no
          have hcz : cu.size ≤ 65536:=by
            have h1 : cu.size = cu.data.toList.length:=ba_len rfl
            rw [h1,hcl,List.length_take,List.length_drop]
            omega
          replace hcn:=Lib.hid hcn
          replace hz1:=Lib.hid hz1
          clear hcl hA1
          obtain ⟨AL,cL,rfl⟩:=Kd.R_slice hL.out
          by_cases hgd : ∃ a,GoodB a ∧ lineL a = cu.data.toList
          · obtain ⟨a,hga,hal⟩:=hgd
            replace hga:=Lib.hid hga
            replace hal:=Lib.hid hal
            go_wp2_with (first
              | (go_at_call 27;go_must (refine (ract_yes hcz hcn.out hga.out hal.out).mono ?_;rintro e w4 ⟨rfl,hb⟩;have hX:=box1 w4 (.cells #[.int .i64 a.f0,.int .i64 a.f1,.string a.f2] 35);have x5:=cells3 hX.1;have hB5:=Lib.hid (below_step (below_step hB.out hb) hX.2);have hL5:=Lib.hid (Kd.R_below (Kd.R_below hL.out hb) hX.2);clear hb hX)))
            go_ret3
            exact ⟨_,[],_,221,rfl,hR2.out,Nat.zero_le _,Kd.R_nil _ _ _ _ _,hB5.out⟩
          · have hbd : ∀ a,GoodB a → lineL a ≠ cu.data.toList:=fun a h1 h2=>hgd ⟨a,h1,h2⟩
            replace hbd:=Lib.hid hbd
            clear hgd
            go_wp2_with (first
              | (go_at_call 27;go_must (refine (ract_no hcz hcn.out hbd.out).mono ?_;rintro e w4 ⟨⟨a,rfl⟩,hb⟩;have hX:=box1 w4 (.cells #[.int .i64 a.f0,.int .i64 a.f1,.string a.f2] 35);have x5:=cells3 hX.1;have hB5:=Lib.hid (below_step (below_step hB.out hb) hX.2);have hL5:=Lib.hid (Kd.R_below (Kd.R_below hL.out hb) hX.2);clear hb hX)))
            go_ret3
            exact ⟨_,[],_,221,rfl,hR2.out,Nat.zero_le _,Kd.R_nil _ _ _ _ _,hB5.out⟩
      · have hi1 : i = text.data.toList.length + 1:=by omega
        have hR2:=Lib.hid (show RdIs text l 0 0 from RdAt.done (f:=f) hs (by rw [← hi1];exact hA.out))
        have d1 : decide (z ≤ (text.size : Int)) = false:=decide_eq_false (by have:=hq.out;omega)
        have d1n : ¬ z ≤ (text.size : Int):=by have:=hq.out;omega
        go_wp2
        go_ret3
        exact ⟨_,l,0,0,rfl,hR2.out,hll.out,hL.out,hB.out⟩
end Go.Proofs.YtjopbfidjapmbaaGreatDoor.Q
end
