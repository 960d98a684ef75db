/- PART 9 OF A PROOF: Lean functions, and that the program computes them; written by hand and by a program. Not trusted: Lean checks it. -/
import Derived.Lib.ItoaNum
import Derived.Lib.MapLaws
import Derived.Test.YtpfbcepgmigeiaaGreatDoorPa2
import Derived.Test.YtpfbcepgmigeiaaGreatDoorPa6
import Derived.Test.YtpfbcepgmigeiaaGreatDoorPa8
set_option linter.unusedVariables false
set_option linter.unusedSimpArgs false
section
namespace Go.Proofs.YtpfbcepgmigeiaaGreatDoorS
open Go Go.Lib
set_option linter.unusedVariables false
set_option linter.unusedSimpArgs false
theorem nat_byte (z : Nat) (x : Int) (h : x = (z : Int)) : x.toNat.toUInt8 = UInt8.ofNat z:=by subst h;simp
set_option maxRecDepth 1000000 in
theorem enc_eq (r : Int) (h : Utf8.valid r = true) : (Utf8.encode r).data.toList = encodeRune r:=by
  have hv : (0 ≤ r ∧ r < 55296) ∨ (57344 ≤ r ∧ r ≤ 1114111):=by
    simpa [Utf8.valid] using h
  obtain ⟨n,rfl⟩ : ∃ n : Nat,r = (n : Int):=⟨r.toNat,by omega⟩
  unfold Utf8.encode
  rw [h]
  simp only [if_true,Int.toNat_natCast]
  by_cases h1 : n < 128
  · rw [if_pos h1]
    unfold encodeRune
    rw [encodeRuneZ_one (by omega) (by omega)]
    simp
  · rw [if_neg h1]
    by_cases h2 : n < 2048
    · rw [if_pos h2]
      unfold encodeRune
      rw [encodeRuneZ_two (by omega) (by omega)]
      simp only [List.map_cons,List.map_nil]
      rw [nat_byte (192 + n / 64) _ (by omega),nat_byte (128 + n % 64) _ (by omega)]
    · rw [if_neg h2]
      by_cases h3 : n < 65536
      · rw [if_pos h3]
        unfold encodeRune
        rw [encodeRuneZ_three (by omega)]
        simp only [List.map_cons,List.map_nil]
        rw [nat_byte (224 + n / 4096) _ (by omega),nat_byte (128 + n / 64 % 64) _ (by omega),nat_byte (128 + n % 64) _ (by omega)]
      · rw [if_neg h3]
        unfold encodeRune
        rw [encodeRuneZ_four (by omega) (by omega)]
        simp only [List.map_cons,List.map_nil]
        rw [nat_byte (240 + n / 262144) _ (by omega),nat_byte (128 + n / 4096 % 64) _ (by omega),nat_byte (128 + n / 64 % 64) _ (by omega),nat_byte (128 + n % 64) _ (by omega)]
theorem enc_ne (r : Int) : (Utf8.encode r).data.toList ≠ []:=by
  unfold Utf8.encode
  dsimp only
  generalize (if Utf8.valid r = true then r.toNat else Utf8.runeError) = c
  by_cases h1 : c < 128
  · rw [if_pos h1];exact List.cons_ne_nil _ _
  · rw [if_neg h1]
    by_cases h2 : c < 2048
    · rw [if_pos h2];exact List.cons_ne_nil _ _
    · rw [if_neg h2]
      by_cases h3 : c < 65536
      · rw [if_pos h3];exact List.cons_ne_nil _ _
      · rw [if_neg h3];exact List.cons_ne_nil _ _
set_option maxRecDepth 1000000 in
theorem dec_enc (n : Nat) (h : Utf8.valid (n : Int) = true) (t : List UInt8) : decodeL ((Utf8.encode (n : Int)).data.toList ++ t) = (n,(Utf8.encode (n : Int)).data.toList.length):=by
  have hv : n < 55296 ∨ (57344 ≤ n ∧ n ≤ 1114111):=by
    have : (0 ≤ (n : Int) ∧ (n : Int) < 55296) ∨ (57344 ≤ (n : Int) ∧ (n : Int) ≤ 1114111):=by simpa [Utf8.valid] using h
    omega
  rw [decodeL_N]
  unfold Utf8.encode
  rw [h]
  simp only [if_true,Int.toNat_natCast]
  by_cases h1 : n < 128
  · rw [if_pos h1]
    simp only [List.cons_append,List.nil_append,List.getD_cons_zero,List.length_cons,List.length_nil,UInt8.toNat_ofNat']
    rw [Nat.mod_eq_of_lt (by omega),decodeN_ascii _ _ _ _ _ h1]
  · rw [if_neg h1]
    by_cases h2 : n < 2048
    · rw [if_pos h2]
      simp only [List.cons_append,List.nil_append,List.getD_cons_zero,List.getD_cons_succ,List.length_cons,List.length_nil,UInt8.toNat_ofNat']
      rw [Nat.mod_eq_of_lt (show 192 + n / 64 < 2 ^ 8 by omega),Nat.mod_eq_of_lt (show 128 + n % 64 < 2 ^ 8 by omega)]
      unfold decodeN
      rw [if_neg (by omega),if_pos (by omega),if_pos (by omega)]
      simp only [Prod.mk.injEq,and_true]
      omega
    · rw [if_neg h2]
      by_cases h3 : n < 65536
      · rw [if_pos h3]
        simp only [List.cons_append,List.nil_append,List.getD_cons_zero,List.getD_cons_succ,List.length_cons,List.length_nil,UInt8.toNat_ofNat']
        rw [Nat.mod_eq_of_lt (show 224 + n / 4096 < 2 ^ 8 by omega),Nat.mod_eq_of_lt (show 128 + n / 64 % 64 < 2 ^ 8 by omega),Nat.mod_eq_of_lt (show 128 + n % 64 < 2 ^ 8 by omega)]
        unfold decodeN
        rw [if_neg (by omega),if_neg (by omega),if_pos (by omega),if_pos (by omega)]
        simp only [Prod.mk.injEq,and_true]
        omega
      · rw [if_neg h3]
        simp only [List.cons_append,List.nil_append,List.getD_cons_zero,List.getD_cons_succ,List.length_cons,List.length_nil,UInt8.toNat_ofNat']
        rw [Nat.mod_eq_of_lt (show 240 + n / 262144 < 2 ^ 8 by omega),Nat.mod_eq_of_lt (show 128 + n / 4096 % 64 < 2 ^ 8 by omega),Nat.mod_eq_of_lt (show 128 + n / 64 % 64 < 2 ^ 8 by omega),Nat.mod_eq_of_lt (show 128 + n % 64 < 2 ^ 8 by omega)]
        unfold decodeN
        rw [if_neg (by omega),if_neg (by omega),if_neg (by omega),if_pos (by omega),if_pos (by omega)]
        simp only [Prod.mk.injEq,and_true]
        omega
def uL : Nat → List UInt8 → List (Nat × Nat)
  | 0,_=>[]
  | f + 1,l=>if l = [] then [] else decodeL l :: uL f (l.drop (decodeL l).2)
theorem uL_nil (f : Nat) : uL f [] = []:=by cases f <;> simp [uL]
theorem uL_fuel : ∀ (f g : Nat) (l : List UInt8),l.length ≤ f → l.length ≤ g → uL f l = uL g l
  | 0,g,l,hf,_=>by
    obtain rfl : l = []:=List.eq_nil_of_length_eq_zero (by omega)
    rw [uL_nil,uL_nil]
  | f + 1,0,l,_,hg=>by
    obtain rfl : l = []:=List.eq_nil_of_length_eq_zero (by omega)
    rw [uL_nil,uL_nil]
  | f + 1,g + 1,l,hf,hg=>by
    by_cases hne : l = []
    · subst hne;rw [uL_nil,uL_nil]
    · have hw:=decodeL_width l
      have hl : 0 < l.length:=List.length_pos_iff.2 hne
      simp only [uL,if_neg hne]
      rw [uL_fuel f g _ (by rw [List.length_drop];omega) (by rw [List.length_drop];omega)]
theorem ulist_L (s : ByteArray) : ∀ (f p : Nat),(ulist s f p).map (fun t=>t.2) = uL f (s.data.toList.drop p)
  | 0,p=>rfl
  | f + 1,p=>by
    have hs : s.size = s.data.toList.length:=by rw [Array.length_toList];rfl
    unfold ulist
    by_cases h : p < s.size
    · have hne : s.data.toList.drop p ≠ []:=by
        intro h0
        have:=congrArg List.length h0
        simp only [List.length_drop,List.length_nil] at this
        omega
      rw [if_pos h,List.map_cons,ulist_L s f,uL,if_neg hne,decodeL_drop,List.drop_drop]
    · rw [if_neg h,List.map_nil,List.drop_of_length_le (by omega),uL_nil]
def runesL (l : List UInt8) : List Int:=(uL l.length l).map fun t=>(t.1 : Int)
theorem urunes_L (s : ByteArray) : urunes s = runesL s.data.toList:=by
  have h:=ulist_L s s.size 0
  rw [List.drop_zero] at h
  unfold urunes uall runesL
  rw [show s.data.toList.length = s.size by rw [Array.length_toList];rfl,← h,List.map_map]
  rfl
theorem ucount_L (s : ByteArray) : ucount s = (runesL s.data.toList).length:=by
  rw [← urunes_L]
  simp [ucount,urunes]
theorem runesL_step (l : List UInt8) (hne : l ≠ []) : runesL l = ((decodeL l).1 : Int) :: runesL (l.drop (decodeL l).2):=by
  have hw:=decodeL_width l
  have hl : 0 < l.length:=List.length_pos_iff.2 hne
  obtain ⟨n,hn⟩ : ∃ n,l.length = n + 1:=⟨l.length - 1,by omega⟩
  unfold runesL
  rw [hn,uL,if_neg hne,List.map_cons,uL_fuel n (l.drop (decodeL l).2).length _ (by rw [List.length_drop];omega) (Nat.le_refl _)]
theorem runesL_enc (n : Nat) (h : Utf8.valid (n : Int) = true) (t : List UInt8) : runesL ((Utf8.encode (n : Int)).data.toList ++ t) = (n : Int) :: runesL t:=by
  rw [runesL_step _ (by have:=enc_ne (n : Int);simp [this]),dec_enc n h t]
  dsimp only
  rw [List.drop_left]
theorem letter_range {r : Int} (h : uclass r = 1) : 65 ≤ r ∧ r ≤ 1119:=by
  unfold uclass at h
  repeat' split at h
  all_goals first | omega | (exact absurd h (by decide))
theorem valid_letter {n : Nat} (h : uclass (n : Int) = 1) : Utf8.valid (n : Int) = true:=by
  have hr:=letter_range h
  simp [Utf8.valid]
  omega
theorem fold_good : ∀ (f : Nat) (l : List UInt8),l.length ≤ f → (runesL l).all ugood = true → (runesL l).flatMap (upiece false) = l
  | 0,l,hf,_=>by
    obtain rfl : l = []:=List.eq_nil_of_length_eq_zero (by omega)
    rfl
  | f + 1,l,hf,hg=>by
    by_cases hne : l = []
    · subst hne;rfl
    · have hw:=decodeL_width l
      have hl : 0 < l.length:=List.length_pos_iff.2 hne
      rw [runesL_step l hne] at hg ⊢
      rw [List.all_cons,Bool.and_eq_true] at hg
      obtain ⟨h1,h2⟩:=hg
      simp only [ugood,Bool.and_eq_true,beq_iff_eq] at h1
      obtain ⟨h1,h3⟩:=h1
      have hr:=letter_range h1
      rw [List.flatMap_cons,fold_good f (l.drop (decodeL l).2) (by rw [List.length_drop];omega) h2]
      have e : upiece false ((decodeL l).1 : Int) = l.take (decodeL l).2:=by
        unfold upiece
        rw [if_pos h1]
        simp only [Bool.false_eq_true,if_false]
        rw [h3,enc_eq _ (valid_letter h1),encode_decode l hne (by omega)]
      rw [e,List.take_append_drop]
theorem letter_count {s : ByteArray} (h : uletter s = true) : 1 ≤ ucount s ∧ ucount s ≤ 3:=by
  unfold uletter at h
  rw [Bool.and_eq_true] at h
  exact of_decide_eq_true h.2
end Go.Proofs.YtpfbcepgmigeiaaGreatDoorS
end
section
namespace Go.Proofs.YtpfbcepgmigeiaaGreatDoorS
open Go Go.Lib
set_option linter.unusedVariables false
set_option linter.unusedSimpArgs false
def unar (r : Int) : Prop:=(32 ≤ r ∧ r ≤ 126) ∨ (160 ≤ r ∧ r ≤ 767) ∨ (880 ≤ r ∧ r ≤ 4351)
def Nar (l : List UInt8) (n : Nat) : Prop:=∃ L : List Nat,l = L.flatMap (fun r : Nat=>(Utf8.encode (r : Int)).data.toList) ∧ L.length = n ∧ ∀ r ∈ L,unar (r : Int)
theorem unar_valid {r : Nat} (h : unar (r : Int)) : Utf8.valid (r : Int) = true:=by
  unfold unar at h
  simp [Utf8.valid]
  omega
theorem Nar.nil : Nar [] 0:=⟨[],rfl,rfl,fun r h=>by cases h⟩
theorem Nar.append {l m : List UInt8} {a b : Nat} (h1 : Nar l a) (h2 : Nar m b) : Nar (l ++ m) (a + b):=by
  obtain ⟨L,rfl,rfl,h3⟩:=h1
  obtain ⟨M,rfl,rfl,h4⟩:=h2
  refine ⟨L ++ M,by rw [List.flatMap_append],by rw [List.length_append],fun r hr=>?_⟩
  rcases List.mem_append.1 hr with hr | hr
  · exact h3 r hr
  · exact h4 r hr
set_option maxRecDepth 1000000 in
theorem enc_ascii {b : UInt8} (h : b.toNat ≤ 126) : (Utf8.encode (b.toNat : Int)).data.toList = [b]:=by
  have hv : Utf8.valid (b.toNat : Int) = true:=by simp [Utf8.valid];omega
  unfold Utf8.encode
  rw [hv]
  simp only [if_true,Int.toNat_natCast]
  rw [if_pos (by omega)]
  simp
theorem Nar.ascii : ∀ l : List UInt8,(∀ b ∈ l,32 ≤ b.toNat ∧ b.toNat ≤ 126) → Nar l l.length
  | [],_=>Nar.nil
  | b :: l,h=>by
    have hb:=h b List.mem_cons_self
    have h1 : Nar [b] 1:=⟨[b.toNat],by rw [List.flatMap_cons,List.flatMap_nil,enc_ascii hb.2,List.append_nil],rfl,fun r hr=>by
      rw [List.mem_singleton.1 hr]
      exact .inl (by omega)⟩
    have h2:=h1.append (Nar.ascii l (fun c hc=>h c (List.mem_cons_of_mem _ hc)))
    rw [List.length_cons,Nat.add_comm]
    exact h2
theorem runesL_nar : ∀ L : List Nat,(∀ r ∈ L,unar (r : Int)) → runesL (L.flatMap (fun r : Nat=>(Utf8.encode (r : Int)).data.toList)) = L.map (fun r : Nat=>(r : Int))
  | [],_=>rfl
  | r :: L,h=>by
    rw [List.flatMap_cons,runesL_enc r (unar_valid (h r List.mem_cons_self)),runesL_nar L (fun x hx=>h x (List.mem_cons_of_mem _ hx)),List.map_cons]
theorem Nar.runes {l : List UInt8} {n : Nat} (h : Nar l n) : (runesL l).length = n ∧ ∀ r ∈ runesL l,unar r:=by
  obtain ⟨L,rfl,rfl,h3⟩:=h
  rw [runesL_nar L h3]
  refine ⟨by rw [List.length_map],fun r hr=>?_⟩
  obtain ⟨x,hx,rfl⟩:=List.mem_map.1 hr
  exact h3 x hx
theorem Nar.count {s : ByteArray} {n : Nat} (h : Nar s.data.toList n) : ucount s = n:=by rw [ucount_L,h.runes.1]
theorem Nar.all {s : ByteArray} {n : Nat} (h : Nar s.data.toList n) : ∀ t ∈ uall s,unar ((t.2.1 : Nat) : Int):=by
  intro t ht
  refine h.runes.2 _ ?_
  rw [← urunes_L]
  exact List.mem_map.2 ⟨t,ht,rfl⟩
theorem letter_nar_int {r : Int} (h : uclass r = 1) : unar r:=by
  unfold unar
  unfold uclass at h
  repeat' split at h
  all_goals first | omega | (exact absurd h (by decide))
theorem good_parts {l : List Int} (h : l.all ugood = true) : ∀ r ∈ l,uclass r = 1 ∧ uupper r = r:=by
  intro r hr
  have h1:=List.all_eq_true.1 h r hr
  unfold ugood at h1
  rw [Bool.and_eq_true] at h1
  exact ⟨eq_of_beq h1.1,eq_of_beq h1.2⟩
theorem good_flat : ∀ l : List Int,(∀ r ∈ l,uclass r = 1 ∧ uupper r = r) → l.flatMap (upiece false) = (l.map Int.toNat).flatMap (fun r : Nat=>(Utf8.encode (r : Int)).data.toList)
  | [],_=>rfl
  | r :: l,h=>by
    have h1:=h r List.mem_cons_self
    have hr:=letter_range h1.1
    rw [List.flatMap_cons,List.map_cons,List.flatMap_cons,good_flat l (fun x hx=>h x (List.mem_cons_of_mem _ hx))]
    have e : upiece false r = (Utf8.encode ((r.toNat : Nat) : Int)).data.toList:=by
      unfold upiece
      rw [if_pos h1.1]
      simp only [Bool.false_eq_true,if_false]
      rw [h1.2,Int.toNat_of_nonneg (by omega)]
    rw [e]
theorem letter_nar {s : ByteArray} (h : uletter s = true) : Nar s.data.toList (ucount s):=by
  have hg : (runesL s.data.toList).all ugood = true:=by
    unfold uletter at h
    rw [Bool.and_eq_true,urunes_L] at h
    exact h.1
  have e:=fold_good _ s.data.toList (Nat.le_refl _) hg
  have hp:=good_parts hg
  clear hg
  rw [ucount_L]
  generalize runesL s.data.toList = l at e hp
  refine ⟨l.map Int.toNat,?_,by rw [List.length_map],fun r hr=>?_⟩
  · rw [← e];exact good_flat l hp
  · obtain ⟨x,hx,rfl⟩:=List.mem_map.1 hr
    have h1:=(hp x hx).1
    have hr:=letter_range h1
    rw [Int.toNat_of_nonneg (by omega)]
    exact letter_nar_int h1
end Go.Proofs.YtpfbcepgmigeiaaGreatDoorS
end
section
namespace Go.Proofs.YtpfbcepgmigeiaaGreatDoor.Q
open Go.RowKit Go.Proofs.YtpfbcepgmigeiaaGreatDoorW.PrintWords Go.Proofs.YtpfbcepgmigeiaaGreatDoorW.PrintLast Go.Proofs.YtpfbcepgmigeiaaGreatDoorW.PrintMore
set_option linter.unusedVariables false
set_option linter.unusedSimpArgs false
open Go.Proofs.YtpfbcepgmigeiaaGreatDoorS
theorem grun_mem {H W : Int} {bl ri be : List Bool} (hc : gcheck H W bl ri be = 0) {way : Int} (hw : way = 0 ∨ way = 1) : ∀ (f : Nat) (i : Int),0 ≤ i → i < bl.length → ∀ c ∈ grun H W bl ri be way f i,0 ≤ c ∧ c < bl.length:=by
  intro f
  induction f with
  | zero=>intro i h0 h1 c hm;simp only [grun,List.mem_singleton] at hm;subst hm;exact ⟨h0,h1⟩
  | succ f ih =>
    intro i h0 h1 c hm
    cases hok : (gStep H W bl ri be i way).2 with
    | false=>simp only [grun,hok,Bool.false_eq_true,if_false,List.mem_singleton] at hm;subst hm;exact ⟨h0,h1⟩
    | true =>
      have hy:=gStep_yes hc hw hok
      simp only [grun,hok,if_true,List.mem_cons] at hm
      rcases hm with rfl | hm
      · exact ⟨h0,h1⟩
      · exact ih _ (by omega) hy.2.2 c hm
theorem grun_length {H W : Int} {bl ri be : List Bool} (hc : gcheck H W bl ri be = 0) {way : Int} (hw : way = 0 ∨ way = 1) : ∀ (f : Nat) (i : Int),0 ≤ i → i < bl.length → (grun H W bl ri be way f i).length + i ≤ bl.length:=by
  intro f
  induction f with
  | zero=>intro i h0 h1;simp only [grun,List.length_singleton];omega
  | succ f ih =>
    intro i h0 h1
    cases hok : (gStep H W bl ri be i way).2 with
    | false=>simp only [grun,hok,Bool.false_eq_true,if_false,List.length_singleton];omega
    | true =>
      have hy:=gStep_yes hc hw hok
      simp only [grun,hok,if_true,List.length_cons]
      have:=ih _ (by omega) hy.2.2
      omega
theorem gslots_mem {H W : Int} {bl ri be : List Bool} (hc : gcheck H W bl ri be = 0) : ∀ (d i : Nat) (num : Int),i + d = bl.length → ∀ x ∈ gslots H W bl ri be d i num,x.2.2.length ≤ bl.length ∧ ∀ c ∈ x.2.2,0 ≤ c ∧ c < bl.length:=by
  intro d
  induction d with
  | zero=>intro i num _ x hx;simp [gslots] at hx
  | succ d ih =>
    intro i num hd x hx
    have hi0 : (0 : Int) ≤ (i : Int):=Int.natCast_nonneg _
    have hi1 : (i : Int) < (bl.length : Int):=Int.ofNat_lt.2 (by omega)
    simp only [gslots,List.mem_append] at hx
    rcases hx with (hx | hx) | hx
    · split at hx
      · simp only [List.mem_singleton] at hx
        subst hx
        exact ⟨by have:=grun_length hc (.inl rfl) bl.length (i : Int) hi0 hi1;simp only;omega,grun_mem hc (.inl rfl) _ _ hi0 hi1⟩
      · simp at hx
    · split at hx
      · simp only [List.mem_singleton] at hx
        subst hx
        exact ⟨by have:=grun_length hc (.inr rfl) bl.length (i : Int) hi0 hi1;simp only;omega,grun_mem hc (.inr rfl) _ _ hi0 hi1⟩
      · simp at hx
    · exact ih (i + 1) _ (by omega) x hx
theorem gslots_count (H W : Int) (bl ri be : List Bool) : ∀ (d i : Nat) (num : Int),(gslots H W bl ri be d i num).length ≤ 2 * d:=by
  intro d
  induction d with
  | zero=>intro i num;simp [gslots]
  | succ d ih =>
    intro i num
    simp only [gslots,List.length_append]
    have:=ih (i + 1) (if gbegins H W bl ri be i 0 || gbegins H W bl ri be i 1 then num + 1 else num)
    split <;> split <;> simp only [List.length_singleton,List.length_nil] <;> omega
theorem slotsOf_facts {H W : Int} {bl ri be : List Bool} (hc : gcheck H W bl ri be = 0) : (slotsOf H W bl ri be).length ≤ 2 * bl.length ∧ ∀ x ∈ slotsOf H W bl ri be,x.f2.length ≤ bl.length ∧ ∀ c ∈ x.f2,0 ≤ c ∧ c < bl.length:=by
  unfold slotsOf
  rw [if_pos hc]
  refine ⟨by rw [List.length_map];exact gslots_count _ _ _ _ _ _ _ _,fun x hx=>?_⟩
  obtain ⟨y,hy,rfl⟩:=List.mem_map.1 hx
  exact gslots_mem hc bl.length 0 0 (by omega) y hy
theorem mem_rd {L : List S48} {m : Nat} (h : m < L.length) : rd_T48 L (m : Int) ∈ L:=by
  have e : rd_T48 L (m : Int) = L[m]:=by simp [rd_T48,List.getD_eq_getElem?_getD,h]
  rw [e]
  exact List.getElem_mem h
theorem grun_ne {H W : Int} {bl ri be : List Bool} {way : Int} : ∀ (f : Nat) (i : Int),1 ≤ (grun H W bl ri be way f i).length
  | 0,i=>by simp [grun]
  | f + 1,i=>by
    simp only [grun]
    split <;> simp
theorem gslots_ne {H W : Int} {bl ri be : List Bool} : ∀ (d i : Nat) (num : Int),∀ x ∈ gslots H W bl ri be d i num,1 ≤ x.2.2.length
  | 0,_,_,x,h=>by simp [gslots] at h
  | d + 1,i,num,x,h=>by
    simp only [gslots,List.mem_append] at h
    rcases h with (h | h) | h
    · split at h
      · simp only [List.mem_singleton] at h
        subst h
        exact grun_ne _ _
      · simp at h
    · split at h
      · simp only [List.mem_singleton] at h
        subst h
        exact grun_ne _ _
      · simp at h
    · exact gslots_ne d (i + 1) _ x h
theorem slots_first {H W : Int} {bl ri be : List Bool} (hc : gcheck H W bl ri be = 0) : ∀ x ∈ slotsOf H W bl ri be,1 ≤ x.f2.length ∧ 0 ≤ rd x.f2 0 ∧ rd x.f2 0 < bl.length:=by
  intro x hx
  have h1 : 1 ≤ x.f2.length:=by
    unfold slotsOf at hx
    rw [if_pos hc] at hx
    obtain ⟨y,hy,rfl⟩:=List.mem_map.1 hx
    exact gslots_ne bl.length 0 0 y hy
  refine ⟨h1,?_⟩
  have hm : rd x.f2 0 ∈ x.f2:=by
    have e : rd x.f2 0 = x.f2[0]:=by
      unfold rd
      rw [List.getD_eq_getElem?_getD,List.getElem?_eq_getElem (by exact h1)]
      rfl
    rw [e]
    exact List.getElem_mem _
  exact ((slotsOf_facts hc).2 x hx).2 _ hm
theorem gcheck_dims {H W : Int} {bl ri be : List Bool} (hc : gcheck H W bl ri be = 0) : 1 ≤ W ∧ (bl.length : Int) = H * W:=by
  unfold gcheck at hc
  split at hc
  · cases hc
  · rename_i h1
    split at hc
    · cases hc
    · rename_i h2
      simp only [Bool.not_eq_false,gsides,gsizes,Bool.and_eq_true,decide_eq_true_eq] at h1 h2
      exact ⟨h1.2.1,h2.1⟩
theorem gStep_open {H W : Int} {bl ri be : List Bool} (hc : gcheck H W bl ri be = 0) {i way : Int} (h : (gStep H W bl ri be i way).2 = true) : gopen bl i = true ∧ gopen bl (gStep H W bl ri be i way).1 = true:=by
  unfold gStep at h ⊢
  cases ho : gopen bl i with
  | false=>rw [ho] at h;cases h
  | true =>
    rw [ho] at h
    simp only [if_true] at h ⊢
    obtain ⟨h1,h2,h3⟩:=gstep_to (gcheck_dims hc).1 (gcheck_dims hc).2 h
    refine ⟨trivial,?_⟩
    unfold gopen
    rw [h3,decide_eq_true ⟨h1,h2⟩]
    rfl
end Go.Proofs.YtpfbcepgmigeiaaGreatDoor.Q
end
section
namespace Go.Proofs.YtpfbcepgmigeiaaGreatDoor.Q
open Go.RowKit Go.Proofs.YtpfbcepgmigeiaaGreatDoorW.PrintWords Go.Proofs.YtpfbcepgmigeiaaGreatDoorW.PrintLast Go.Proofs.YtpfbcepgmigeiaaGreatDoorW.PrintMore
set_option linter.unusedVariables false
set_option linter.unusedSimpArgs false
open Go.Proofs.YtpfbcepgmigeiaaGreatDoorS
def itoaB (n : Int) : ByteArray:=⟨(Lib.itoa n).toArray⟩
def spB (n : Nat) : ByteArray:=⟨(List.replicate n 32).toArray⟩
def pnums (L : List S48) (n : Nat) : List ByteArray:=L.foldl (fun acc x=>acc.set (rdOf 0 x.f2 0).toNat (itoaB x.f0)) (List.replicate n ⟨#[]⟩)
def padB (s : ByteArray) : ByteArray:=s ++ spB (3 - ucount s)
def midB (s : ByteArray) : ByteArray:=if ucount s ≤ 2 then padB (⟨#[32]⟩ ++ s) else s
def sideB (W : Int) (ri : List Bool) (i : Int) : ByteArray:=if 0 < i % W ∧ gat ri (i - 1) = true then ⟨#[35]⟩ else ⟨#[124]⟩
def topB (W : Int) (be : List Bool) (r : Nat) (i : Int) : ByteArray:=if 0 < r ∧ gat be (i - W) = true then ⟨#[43,61,61,61]⟩ else ⟨#[43,45,45,45]⟩
def fillB (W : Int) (bl ri : List Bool) (i : Int) (s : ByteArray) : ByteArray:=sideB W ri i ++ (if gat bl i = true then ⟨#[35,35,35]⟩ else s)
def catB (f : Nat → ByteArray) : Nat → ByteArray
  | 0=>⟨#[]⟩
  | n + 1=>catB f n ++ f n
def rowB (W : Int) (r : Nat) (f : Int → ByteArray) (e : ByteArray) : ByteArray:=catB (fun c=>f ((r : Int) * W + (c : Int))) W.toNat ++ e
def rowsB (W : Int) (bl ri be : List Bool) (nums cells : List ByteArray) : Nat → List ByteArray
  | 0=>[]
  | r + 1=>rowsB W bl ri be nums cells r ++ [rowB W r (topB W be r) ⟨#[43]⟩,rowB W r (fun i=>fillB W bl ri i (padB (rdOf ByteArray.empty nums i))) ⟨#[124]⟩,rowB W r (fun i=>fillB W bl ri i (midB (rdOf ByteArray.empty cells i))) ⟨#[124]⟩]
def drawB (H W : Int) (bl ri be : List Bool) (cells : List ByteArray) : List ByteArray :=
  rowsB W bl ri be (pnums (slotsOf H W bl ri be) cells.length) cells H.toNat ++ [rowB W 0 (fun _=>⟨#[43,45,45,45]⟩) ⟨#[43]⟩]
theorem bap (x y : ByteArray) : (x ++ y).data.toList = x.data.toList ++ y.data.toList:=by simp
theorem nar_app {x y : ByteArray} {a b : Nat} (h1 : Nar x.data.toList a) (h2 : Nar y.data.toList b) : Nar (x ++ y).data.toList (a + b):=by rw [bap];exact h1.append h2
theorem nar_sp (n : Nat) : Nar (spB n).data.toList n:=by
  have h:=Nar.ascii (List.replicate n 32) (fun b hb=>by rw [List.eq_of_mem_replicate hb];decide)
  rw [List.length_replicate] at h
  exact h
theorem nar_pad {s : ByteArray} {n : Nat} (h : Nar s.data.toList n) (h3 : n ≤ 3) : Nar (padB s).data.toList 3:=by
  unfold padB
  rw [h.count]
  have h2:=nar_app h (nar_sp (3 - n))
  rwa [show n + (3 - n) = 3 by omega] at h2
theorem nar_mid {s : ByteArray} {n : Nat} (h : Nar s.data.toList n) (h3 : n ≤ 3) : Nar (midB s).data.toList 3:=by
  unfold midB
  rw [h.count]
  have h1 : Nar (⟨#[32]⟩ : ByteArray).data.toList 1:=Nar.ascii [32] (by decide)
  split
  · have h2:=nar_app h1 h
    exact nar_pad h2 (by omega)
  · have e : n = 3:=by omega
    rwa [e] at h
theorem nar_fill {W : Int} {bl ri : List Bool} {i : Int} {s : ByteArray} (h : Nar s.data.toList 3) : Nar (fillB W bl ri i s).data.toList 4:=by
  have h1 : Nar (sideB W ri i).data.toList 1:=by
    unfold sideB
    split
    · exact Nar.ascii [35] (by decide)
    · exact Nar.ascii [124] (by decide)
  have h2 : Nar (if gat bl i = true then (⟨#[35,35,35]⟩ : ByteArray) else s).data.toList 3:=by
    split
    · exact Nar.ascii [35,35,35] (by decide)
    · exact h
  exact nar_app h1 h2
theorem nar_top {W : Int} {be : List Bool} {r : Nat} {i : Int} : Nar (topB W be r i).data.toList 4:=by
  unfold topB
  split
  · exact Nar.ascii [43,61,61,61] (by decide)
  · exact Nar.ascii [43,45,45,45] (by decide)
theorem nar_cat {f : Nat → ByteArray} : ∀ n : Nat,(∀ c,c < n → Nar (f c).data.toList 4) → Nar (catB f n).data.toList (4 * n)
  | 0,_=>Nar.nil
  | n + 1,h=>nar_app (nar_cat n (fun c hc=>h c (by omega))) (h n (by omega))
theorem nar_row {W : Int} {r : Nat} {f : Int → ByteArray} {e : ByteArray} (hf : ∀ c : Nat,c < W.toNat → Nar (f ((r : Int) * W + (c : Int))).data.toList 4) (he : Nar e.data.toList 1) : Nar (rowB W r f e).data.toList (4 * W.toNat + 1) :=
  nar_app (nar_cat W.toNat hf) he
theorem gslots_num {H W : Int} {bl ri be : List Bool} : ∀ (d i : Nat) (num : Int),∀ x ∈ gslots H W bl ri be d i num,num < x.1 ∧ x.1 ≤ num + d
  | 0,_,_,x,h=>by simp [gslots] at h
  | d + 1,i,num,x,h=>by
    simp only [gslots,List.mem_append] at h
    rcases h with (h | h) | h
    · split at h
      · simp only [List.mem_singleton] at h
        subst h
        show num < num + 1 ∧ num + 1 ≤ _
        omega
      · simp at h
    · split at h
      · simp only [List.mem_singleton] at h
        subst h
        show num < num + 1 ∧ num + 1 ≤ _
        omega
      · simp at h
    · have:=gslots_num d (i + 1) _ x h
      split at this <;> omega
theorem slots_num {H W : Int} {bl ri be : List Bool} (hc : gcheck H W bl ri be = 0) (hn : bl.length ≤ 256) : ∀ x ∈ slotsOf H W bl ri be,1 ≤ x.f0 ∧ x.f0 ≤ 256:=by
  unfold slotsOf
  rw [if_pos hc]
  intro x hx
  obtain ⟨y,hy,rfl⟩:=List.mem_map.1 hx
  have:=gslots_num bl.length 0 0 y hy
  show 1 ≤ y.1 ∧ y.1 ≤ 256
  omega
theorem pdec_digits (n : Nat) : ∀ b ∈ Lib.decDigits n,48 ≤ b.toNat ∧ b.toNat ≤ 57:=by
  induction n using Nat.strongRecOn with
  | ind n ih =>
    rw [Lib.decDigits]
    split
    · rename_i h
      intro b hb
      rw [List.mem_singleton.1 hb,UInt8.toNat_ofNat']
      omega
    · rename_i h
      intro b hb
      rcases List.mem_append.1 hb with hb | hb
      · exact ih (n / 10) (by omega) b hb
      · rw [List.mem_singleton.1 hb,UInt8.toNat_ofNat']
        omega
theorem pdec_len : ∀ (k n : Nat),n < 10 ^ (k + 1) → (Lib.decDigits n).length ≤ k + 1
  | 0,n,h=>by
    rw [Lib.decDigits,dif_pos (by simpa using h)]
    exact Nat.le_refl _
  | k + 1,n,h=>by
    rw [Lib.decDigits]
    split
    · simp
    · have:=pdec_len k (n / 10) (by rw [Nat.pow_succ] at h;omega)
      rw [List.length_append,List.length_singleton]
      omega
def NumOk (s : ByteArray) : Prop:=s.size ≤ 3 ∧ Nar s.data.toList s.size
theorem num_ok {n : Int} (h1 : 1 ≤ n) (h2 : n ≤ 256) : NumOk (itoaB n):=by
  have e : (itoaB n).data.toList = Lib.decDigits n.toNat:=by
    show (Lib.itoa n).toArray.toList = _
    unfold Lib.itoa
    rw [if_neg (by omega)]
  have hs : (itoaB n).size = (Lib.decDigits n.toNat).length:=by rw [← e,Array.length_toList];rfl
  have hl:=pdec_len 2 n.toNat (by omega)
  refine ⟨by omega,?_⟩
  rw [hs,e]
  exact Nar.ascii _ (fun b hb=>by have:=pdec_digits n.toNat b hb;omega)
theorem nums_fold : ∀ (L : List S48) (acc : List ByteArray),(∀ x ∈ L,1 ≤ x.f0 ∧ x.f0 ≤ 256) → (∀ y ∈ acc,NumOk y) → (∀ y ∈ L.foldl (fun acc x=>acc.set (rdOf 0 x.f2 0).toNat (itoaB x.f0)) acc,NumOk y) ∧ (L.foldl (fun acc x=>acc.set (rdOf 0 x.f2 0).toNat (itoaB x.f0)) acc).length = acc.length
  | [],acc,_,h=>⟨h,rfl⟩
  | x :: L,acc,hL,h=>by
    have hx:=hL x List.mem_cons_self
    have ih:=nums_fold L (acc.set (rdOf 0 x.f2 0).toNat (itoaB x.f0)) (fun y hy=>hL y (List.mem_cons_of_mem _ hy)) (fun y hy=>by
      rcases List.mem_or_eq_of_mem_set hy with hy | hy
      · exact h y hy
      · rw [hy];exact num_ok hx.1 hx.2)
    rw [List.length_set] at ih
    exact ih
theorem nums_ok {L : List S48} (h : ∀ x ∈ L,1 ≤ x.f0 ∧ x.f0 ≤ 256) (n : Nat) : (∀ y ∈ pnums L n,NumOk y) ∧ (pnums L n).length = n:=by
  have h2:=nums_fold L (List.replicate n ⟨#[]⟩) h (fun y hy=>by rw [List.eq_of_mem_replicate hy];exact ⟨Nat.zero_le _,Nar.nil⟩)
  rw [List.length_replicate] at h2
  exact h2
def CellOk (s : ByteArray) : Prop:=∃ n,n ≤ 3 ∧ Nar s.data.toList n
theorem cell_empty : CellOk ⟨#[]⟩:=⟨0,by decide,Nar.nil⟩
theorem cell_letter {s : ByteArray} (h : uletter s = true) : CellOk s:=⟨ucount s,(letter_count h).2,letter_nar h⟩
theorem prd_mem {l : List ByteArray} {i : Int} (h : i.toNat < l.length) : rdOf ByteArray.empty l i ∈ l:=by
  unfold rdOf
  rw [List.getD_eq_getElem?_getD,List.getElem?_eq_getElem h]
  exact List.getElem_mem h
theorem prd_far {l : List ByteArray} {i : Int} (h : ¬ i.toNat < l.length) : rdOf ByteArray.empty l i = ⟨#[]⟩:=by
  unfold rdOf
  rw [List.getD_eq_getElem?_getD,List.getElem?_eq_none (by omega)]
  rfl
theorem rd_cell {l : List ByteArray} (h : ∀ s ∈ l,CellOk s) (i : Int) : CellOk (rdOf ByteArray.empty l i):=by
  by_cases hi : i.toNat < l.length
  · exact h _ (prd_mem hi)
  · rw [prd_far hi];exact cell_empty
theorem rd_num {l : List ByteArray} (h : ∀ s ∈ l,NumOk s) (i : Int) : NumOk (rdOf ByteArray.empty l i):=by
  by_cases hi : i.toNat < l.length
  · exact h _ (prd_mem hi)
  · rw [prd_far hi];exact ⟨Nat.zero_le _,Nar.nil⟩
theorem rows_nar {W : Int} {bl ri be : List Bool} {nums cells : List ByteArray} (hn : ∀ s ∈ nums,NumOk s) (hc : ∀ s ∈ cells,CellOk s) : ∀ r : Nat,∀ l ∈ rowsB W bl ri be nums cells r,Nar l.data.toList (4 * W.toNat + 1)
  | 0,l,h=>by cases h
  | r + 1,l,h=>by
    have h1 : Nar (⟨#[43]⟩ : ByteArray).data.toList 1:=Nar.ascii [43] (by decide)
    have h2 : Nar (⟨#[124]⟩ : ByteArray).data.toList 1:=Nar.ascii [124] (by decide)
    simp only [rowsB,List.mem_append,List.mem_cons,List.not_mem_nil,or_false] at h
    rcases h with h | rfl | rfl | rfl
    · exact rows_nar hn hc r l h
    · exact nar_row (fun c _=>nar_top) h1
    · refine nar_row (fun c _=>nar_fill ?_) h2
      have h3:=rd_num hn ((r : Int) * W + (c : Int))
      exact nar_pad h3.2 h3.1
    · refine nar_row (fun c _=>nar_fill ?_) h2
      obtain ⟨n,h3,h4⟩:=rd_cell hc ((r : Int) * W + (c : Int))
      exact nar_mid h4 h3
theorem rows_len {W : Int} {bl ri be : List Bool} {nums cells : List ByteArray} : ∀ r : Nat,(rowsB W bl ri be nums cells r).length = 3 * r
  | 0=>rfl
  | r + 1=>by
    simp only [rowsB,List.length_append,List.length_cons,List.length_nil,rows_len r]
    omega
theorem draw_len {H W : Int} {bl ri be : List Bool} {cells : List ByteArray} : (drawB H W bl ri be cells).length = 3 * H.toNat + 1:=by
  unfold drawB
  rw [List.length_append,rows_len]
  rfl
theorem draw_nar {H W : Int} {bl ri be : List Bool} {cells : List ByteArray} (hc : gcheck H W bl ri be = 0) (hn : bl.length ≤ 256) (hs : ∀ s ∈ cells,CellOk s) : ∀ l ∈ drawB H W bl ri be cells,Nar l.data.toList (4 * W.toNat + 1):=by
  intro l hl
  unfold drawB at hl
  rcases List.mem_append.1 hl with hl | hl
  · exact rows_nar (nums_ok (slots_num hc hn) _).1 hs _ l hl
  · rw [List.mem_singleton.1 hl]
    exact nar_row (fun c _=>Nar.ascii [43,45,45,45] (by decide)) (Nar.ascii [43] (by decide))
end Go.Proofs.YtpfbcepgmigeiaaGreatDoor.Q
end
section
namespace Go.Proofs.YtpfbcepgmigeiaaGreatDoor.Q
open Go.RowKit Go.Shelf Go.Proofs.YtpfbcepgmigeiaaGreatDoorW.PrintWords Go.Proofs.YtpfbcepgmigeiaaGreatDoorW.PrintLast Go.Proofs.YtpfbcepgmigeiaaGreatDoorS
set_option linter.unusedVariables false
set_option linter.unusedSimpArgs false
def wrowsV : Value:=.agg #[.int .i32 0,.int .i32 31,.int .i32 0,.int .i32 127,.int .i32 159,.int .i32 0,.int .i32 768,.int .i32 879,.int .i32 0,.int .i32 4352,.int .i32 4447,.int .i32 2,.int .i32 11904,.int .i32 42191,.int .i32 2,.int .i32 44032,.int .i32 55203,.int .i32 2,.int .i32 63744,.int .i32 64255,.int .i32 2,.int .i32 65280,.int .i32 65376,.int .i32 2,.int .i32 127744,.int .i32 129791,.int .i32 2]
theorem wrow0 (w : World) : (Instr.index 137 wrowsV (.int .i64 0)).run Tryz.prog w = .ok (.agg #[.int .i32 0,.int .i32 31,.int .i32 0]) w:=by kernel_rfl
theorem wrow1 (w : World) : (Instr.index 137 wrowsV (.int .i64 1)).run Tryz.prog w = .ok (.agg #[.int .i32 127,.int .i32 159,.int .i32 0]) w:=by kernel_rfl
theorem wrow2 (w : World) : (Instr.index 137 wrowsV (.int .i64 2)).run Tryz.prog w = .ok (.agg #[.int .i32 768,.int .i32 879,.int .i32 0]) w:=by kernel_rfl
theorem wrow3 (w : World) : (Instr.index 137 wrowsV (.int .i64 3)).run Tryz.prog w = .ok (.agg #[.int .i32 4352,.int .i32 4447,.int .i32 2]) w:=by kernel_rfl
theorem wrow4 (w : World) : (Instr.index 137 wrowsV (.int .i64 4)).run Tryz.prog w = .ok (.agg #[.int .i32 11904,.int .i32 42191,.int .i32 2]) w:=by kernel_rfl
theorem wrow5 (w : World) : (Instr.index 137 wrowsV (.int .i64 5)).run Tryz.prog w = .ok (.agg #[.int .i32 44032,.int .i32 55203,.int .i32 2]) w:=by kernel_rfl
theorem wrow6 (w : World) : (Instr.index 137 wrowsV (.int .i64 6)).run Tryz.prog w = .ok (.agg #[.int .i32 63744,.int .i32 64255,.int .i32 2]) w:=by kernel_rfl
theorem wrow7 (w : World) : (Instr.index 137 wrowsV (.int .i64 7)).run Tryz.prog w = .ok (.agg #[.int .i32 65280,.int .i32 65376,.int .i32 2]) w:=by kernel_rfl
theorem wrow8 (w : World) : (Instr.index 137 wrowsV (.int .i64 8)).run Tryz.prog w = .ok (.agg #[.int .i32 127744,.int .i32 129791,.int .i32 2]) w:=by kernel_rfl
set_option maxHeartbeats 8000000 in
set_option maxRecDepth 1000000 in
theorem width_calls (r : Int) (h : unar r) (w : World) :
    Calls Tryz.prog 80 #[.int .i32 r] w fun e w'=>e = .returned (.int .i64 1) ∧ Below w.heap.size w w':=by
  go_enter Tryz.func80,Tryz.ntmps80
  go_wp2
  go_loopw [15] (fun n wr=>∃ i : Int,n = .int .i64 i ∧ (0 ≤ i ∧ i ≤ 9) ∧ Below w.heap.size w wr) (fun n _=>9 - (intOf n).toNat)
  case atStart=>exact ⟨0,rfl,by omega,Below.refl _ _⟩
  case round =>
    obtain ⟨i,rfl,hi,hB⟩:=hrel
    by_cases h9 : i = 9
    · subst h9
      go_wp2
      go_ret
      exact ⟨rfl,hB⟩
    · have hc : i = 0 ∨ i = 1 ∨ i = 2 ∨ i = 3 ∨ i = 4 ∨ i = 5 ∨ i = 6 ∨ i = 7 ∨ i = 8:=by omega
      unfold unar at h
      have hB2:=fun o=>hB.alloc hB.size o
      replace hB:=Lib.hid hB
      replace hB2:=Lib.hid hB2
      clear hi h9
      rcases hc with rfl | rfl | rfl | rfl | rfl | rfl | rfl | rfl | rfl
      · have hrow:=wrow0 wr
        unfold wrowsV at hrow
        rcases h with ⟨h1,h2⟩ | ⟨h1,h2⟩ | ⟨h1,h2⟩ <;> (go_wp2;go_roundw;(case rel=>exact ⟨_,rfl,by omega,hB2.out _⟩);(case measure=>decide))
      · have hrow:=wrow1 wr
        unfold wrowsV at hrow
        rcases h with ⟨h1,h2⟩ | ⟨h1,h2⟩ | ⟨h1,h2⟩ <;> (go_wp2;go_roundw;(case rel=>exact ⟨_,rfl,by omega,hB2.out _⟩);(case measure=>decide))
      · have hrow:=wrow2 wr
        unfold wrowsV at hrow
        rcases h with ⟨h1,h2⟩ | ⟨h1,h2⟩ | ⟨h1,h2⟩ <;> (go_wp2;go_roundw;(case rel=>exact ⟨_,rfl,by omega,hB2.out _⟩);(case measure=>decide))
      · have hrow:=wrow3 wr
        unfold wrowsV at hrow
        rcases h with ⟨h1,h2⟩ | ⟨h1,h2⟩ | ⟨h1,h2⟩ <;> (go_wp2;go_roundw;(case rel=>exact ⟨_,rfl,by omega,hB2.out _⟩);(case measure=>decide))
      · have hrow:=wrow4 wr
        unfold wrowsV at hrow
        rcases h with ⟨h1,h2⟩ | ⟨h1,h2⟩ | ⟨h1,h2⟩ <;> (go_wp2;go_roundw;(case rel=>exact ⟨_,rfl,by omega,hB2.out _⟩);(case measure=>decide))
      · have hrow:=wrow5 wr
        unfold wrowsV at hrow
        rcases h with ⟨h1,h2⟩ | ⟨h1,h2⟩ | ⟨h1,h2⟩ <;> (go_wp2;go_roundw;(case rel=>exact ⟨_,rfl,by omega,hB2.out _⟩);(case measure=>decide))
      · have hrow:=wrow6 wr
        unfold wrowsV at hrow
        rcases h with ⟨h1,h2⟩ | ⟨h1,h2⟩ | ⟨h1,h2⟩ <;> (go_wp2;go_roundw;(case rel=>exact ⟨_,rfl,by omega,hB2.out _⟩);(case measure=>decide))
      · have hrow:=wrow7 wr
        unfold wrowsV at hrow
        rcases h with ⟨h1,h2⟩ | ⟨h1,h2⟩ | ⟨h1,h2⟩ <;> (go_wp2;go_roundw;(case rel=>exact ⟨_,rfl,by omega,hB2.out _⟩);(case measure=>decide))
      · have hrow:=wrow8 wr
        unfold wrowsV at hrow
        rcases h with ⟨h1,h2⟩ | ⟨h1,h2⟩ | ⟨h1,h2⟩ <;> (go_wp2;go_roundw;(case rel=>exact ⟨_,rfl,by omega,hB2.out _⟩);(case measure=>decide))
set_option maxHeartbeats 4000000 in
set_option maxRecDepth 1000000 in
theorem columns_calls (a0 : ByteArray) (n : Nat) (w : World) (hs : a0.size ≤ 140737488351232) (hn : Nar a0.data.toList n) :
    Calls Tryz.prog 49 #[.string a0] w fun e w'=>e = .returned (.int .i64 (n : Int)) ∧ Below w.heap.size w w':=by
  have hcl:=ucount_le a0
  have hct:=Lib.hid hn.count
  have hal:=Lib.hid hn.all
  go_enter Tryz.func49,Tryz.ntmps49
  go_wp2
  go_loopw [3] (fun m wr=>∃ (pos f c : Nat),m = .int .i64 c ∧ wr.heap[w.heap.size]? = some (.stringIter a0 pos) ∧ Below w.heap.size w wr ∧ c + (ulist a0 f pos).length = ucount a0 ∧ a0.size ≤ pos + f ∧ Hid (∀ t ∈ ulist a0 f pos,unar ((t.2.1 : Nat) : Int))) (fun _ wr=>a0.size - wr.iterPos w.heap.size)
  case atStart=>exact ⟨0,a0.size,0,rfl,World.iter_heap w a0 0,(Below.refl _ w).alloc (Nat.le_refl _) _,by simp [ucount,uall],by omega,hal⟩
  case round =>
    obtain ⟨pos,f,c,rfl,hit,hbw,hc,hf,hu⟩:=hrel
    by_cases hp : pos < a0.size
    · have hnx : ∀ ty,(Instr.next (.pointer (some ⟨w.heap.size,0,none⟩)) true ty).run Tryz.prog wr = _:=fun ty=>Lib.run_next_any_at wr w.heap.size a0 pos ty hit hp
      have hwd:=width_pos a0 pos hp
      have hd1:=decode_le a0 pos
      have hit2:=Lib.iterAt_heap wr (w.heap.size) a0 pos (pos + (Utf8.decode a0 pos).2) hit
      have hbw2:=Lib.below_iterAt hbw (k:=w.heap.size) (by omega) a0 (pos + (Utf8.decode a0 pos).2)
      obtain ⟨f,rfl⟩ : ∃ f',f = f' + 1:=⟨f - 1,by omega⟩
      have hu0:=hu.out
      rw [ulist_step a0 f pos hp] at hc hu0
      rw [List.length_cons] at hc
      have hu1 : unar (((Utf8.decode a0 pos).1 : Nat) : Int):=hu0 _ List.mem_cons_self
      have hu2:=Lib.hid (fun t ht=>hu0 t (List.mem_cons_of_mem _ ht))
      replace hu1:=Lib.hid hu1
      clear hu0 hu
      have hc2 : c + 1 ≤ ucount a0:=by omega
      have hc:=Lib.hid hc
      go_wp2_with (go_at_call 80;refine (width_calls _ hu1.out _).mono ?_;rintro e w3 ⟨rfl,hb3⟩)
      have hit3 : w3.heap[w.heap.size]? = some (.stringIter a0 (pos + (Utf8.decode a0 pos).2)):=(hb3.block _ (Array.getElem?_eq_some_iff.1 hit2).1).trans hit2
      go_roundw
      case rel=>exact ⟨pos + (Utf8.decode a0 pos).2,f,c + 1,by go_num,hit3,hbw2.trans (hb3.mono hbw2.size),by have:=hc.out;omega,by omega,hu2⟩
      case measure=>simp only [World.iterPos,hit3,hit];omega
    · have hnx : ∀ ty,(Instr.next (.pointer (some ⟨w.heap.size,0,none⟩)) true ty).run Tryz.prog wr = _:=fun ty=>Lib.run_next_end_at wr (w.heap.size) a0 pos ty hit hp
      rw [ulist_end a0 f pos hp] at hc
      have hc : c = ucount a0:=hc
      have hc:=Lib.hid (hc.trans hct.out)
      go_wp2
      go_ret
      rw [hc.out]
      exact ⟨rfl,hbw⟩
set_option maxHeartbeats 4000000 in
set_option maxRecDepth 1000000 in
theorem repeat_sp (k : Nat) (hk : k ≤ 3) (w : World) :
    Calls Tryz.prog 16 #[.string ⟨#[32]⟩,.int .i64 (k : Int)] w fun e w'=>e = .returned (.string (spB k)) ∧ w' = w:=by
  have hpre : Lib.hasPrefix (List.replicate 128 (32 : UInt8)) [32] = true:=by decide
  have hc : k = 0 ∨ k = 1 ∨ k = 2 ∨ k = 3:=by omega
  rcases hc with rfl | rfl | rfl | rfl
  · go_enter Tryz.func16,Tryz.ntmps16
    go_wp2
    go_ret
    exact ⟨rfl,rfl⟩
  · go_enter Tryz.func16,Tryz.ntmps16
    go_wp2
    go_ret
    exact ⟨rfl,rfl⟩
  · go_enter Tryz.func16,Tryz.ntmps16
    go_wp2_with (first | (go_at_call 44;go_must (refine (Tryz.bits_Mul 1 2 (by decide) (by decide) _).mono ?_;rintro e w' ⟨rfl,rfl⟩)) | (go_at_call 45;go_must (refine (Tryz.strings_HasPrefix _ _ _).mono ?_;rintro e w' ⟨rfl,rfl⟩)))
    go_ret
    exact ⟨rfl,rfl⟩
  · go_enter Tryz.func16,Tryz.ntmps16
    go_wp2_with (first | (go_at_call 44;go_must (refine (Tryz.bits_Mul 1 3 (by decide) (by decide) _).mono ?_;rintro e w' ⟨rfl,rfl⟩)) | (go_at_call 45;go_must (refine (Tryz.strings_HasPrefix _ _ _).mono ?_;rintro e w' ⟨rfl,rfl⟩)))
    go_ret
    exact ⟨rfl,rfl⟩
end Go.Proofs.YtpfbcepgmigeiaaGreatDoor.Q
end
section
namespace Go.Proofs.YtpfbcepgmigeiaaGreatDoor.Q
open Go.RowKit Go.Shelf Go.Proofs.YtpfbcepgmigeiaaGreatDoorW.PrintWords Go.Proofs.YtpfbcepgmigeiaaGreatDoorW.PrintLast Go.Proofs.YtpfbcepgmigeiaaGreatDoorS
set_option linter.unusedVariables false
set_option linter.unusedSimpArgs false
def uwid (r : Int) : Int:=if (0 ≤ r ∧ r ≤ 31) ∨ (127 ≤ r ∧ r ≤ 159) ∨ (768 ≤ r ∧ r ≤ 879) then 0 else if (4352 ≤ r ∧ r ≤ 4447) ∨ (11904 ≤ r ∧ r ≤ 42191) ∨ (44032 ≤ r ∧ r ≤ 55203) ∨ (63744 ≤ r ∧ r ≤ 64255) ∨ (65280 ≤ r ∧ r ≤ 65376) ∨ (127744 ≤ r ∧ r ≤ 129791) then 2 else 1
theorem uwid_pos (r : Int) : 0 ≤ uwid r ∧ uwid r ≤ 2:=by
  unfold uwid
  split
  · omega
  · split <;> omega
def wno (i r : Int) : Prop:=(1 ≤ i → ¬ (0 ≤ r ∧ r ≤ 31)) ∧ (2 ≤ i → ¬ (127 ≤ r ∧ r ≤ 159)) ∧ (3 ≤ i → ¬ (768 ≤ r ∧ r ≤ 879)) ∧ (4 ≤ i → ¬ (4352 ≤ r ∧ r ≤ 4447)) ∧ (5 ≤ i → ¬ (11904 ≤ r ∧ r ≤ 42191)) ∧ (6 ≤ i → ¬ (44032 ≤ r ∧ r ≤ 55203)) ∧ (7 ≤ i → ¬ (63744 ≤ r ∧ r ≤ 64255)) ∧ (8 ≤ i → ¬ (65280 ≤ r ∧ r ≤ 65376)) ∧ (9 ≤ i → ¬ (127744 ≤ r ∧ r ≤ 129791))
theorem wno_end {r : Int} (h : wno 9 r) : uwid r = 1:=by
  unfold wno at h
  unfold uwid
  rw [if_neg (by omega),if_neg (by omega)]
set_option maxHeartbeats 8000000 in
set_option maxRecDepth 1000000 in
theorem width_any (r : Int) (w : World) :
    Calls Tryz.prog 80 #[.int .i32 r] w fun e w'=>e = .returned (.int .i64 (uwid r)) ∧ Below w.heap.size w w':=by
  go_enter Tryz.func80,Tryz.ntmps80
  go_wp2
  go_loopw [15] (fun n wr=>∃ i : Int,n = .int .i64 i ∧ (0 ≤ i ∧ i ≤ 9) ∧ Hid (wno i r) ∧ Below w.heap.size w wr) (fun n _=>9 - (intOf n).toNat)
  case atStart=>exact ⟨0,rfl,by omega,Lib.hid (by unfold wno;omega),Below.refl _ _⟩
  case round =>
    obtain ⟨i,rfl,hi,hno,hB⟩:=hrel
    by_cases h9 : i = 9
    · subst h9
      have hv:=Lib.hid (wno_end hno.out)
      go_wp2
      go_ret
      exact ⟨by rw [hv.out];rfl,hB⟩
    · have hc : i = 0 ∨ i = 1 ∨ i = 2 ∨ i = 3 ∨ i = 4 ∨ i = 5 ∨ i = 6 ∨ i = 7 ∨ i = 8:=by omega
      have hB2:=fun o=>hB.alloc hB.size o
      replace hB:=Lib.hid hB
      replace hB2:=Lib.hid hB2
      clear hi h9
      rcases hc with rfl | rfl | rfl | rfl | rfl | rfl | rfl | rfl | rfl
      · have hrow:=wrow0 wr
        unfold wrowsV at hrow
        by_cases h1 : 0 ≤ r
        · by_cases h2 : r ≤ 31
          · have hv : uwid r = 0:=by unfold uwid;(first | (rw [if_pos (by omega)];done) | (rw [if_neg (by omega),if_pos (by omega)]))
            replace hv:=Lib.hid hv
            clear hno
            go_wp2
            go_ret
            exact ⟨by rw [hv.out];rfl,hB2.out _⟩
          · have hno2:=Lib.hid (show wno 1 r from by have h3:=hno.out;unfold wno at h3 ⊢;omega)
            clear hno
            go_wp2
            go_roundw
            case rel=>exact ⟨_,rfl,by omega,hno2,hB2.out _⟩
            case measure=>decide
        · have hno2:=Lib.hid (show wno 1 r from by have h3:=hno.out;unfold wno at h3 ⊢;omega)
          clear hno
          go_wp2
          go_roundw
          case rel=>exact ⟨_,rfl,by omega,hno2,hB2.out _⟩
          case measure=>decide
      · have hrow:=wrow1 wr
        unfold wrowsV at hrow
        by_cases h1 : 127 ≤ r
        · by_cases h2 : r ≤ 159
          · have hv : uwid r = 0:=by unfold uwid;(first | (rw [if_pos (by omega)];done) | (rw [if_neg (by omega),if_pos (by omega)]))
            replace hv:=Lib.hid hv
            clear hno
            go_wp2
            go_ret
            exact ⟨by rw [hv.out];rfl,hB2.out _⟩
          · have hno2:=Lib.hid (show wno 2 r from by have h3:=hno.out;unfold wno at h3 ⊢;omega)
            clear hno
            go_wp2
            go_roundw
            case rel=>exact ⟨_,rfl,by omega,hno2,hB2.out _⟩
            case measure=>decide
        · have hno2:=Lib.hid (show wno 2 r from by have h3:=hno.out;unfold wno at h3 ⊢;omega)
          clear hno
          go_wp2
          go_roundw
          case rel=>exact ⟨_,rfl,by omega,hno2,hB2.out _⟩
          case measure=>decide
      · have hrow:=wrow2 wr
        unfold wrowsV at hrow
        by_cases h1 : 768 ≤ r
        · by_cases h2 : r ≤ 879
          · have hv : uwid r = 0:=by unfold uwid;(first | (rw [if_pos (by omega)];done) | (rw [if_neg (by omega),if_pos (by omega)]))
            replace hv:=Lib.hid hv
            clear hno
            go_wp2
            go_ret
            exact ⟨by rw [hv.out];rfl,hB2.out _⟩
          · have hno2:=Lib.hid (show wno 3 r from by have h3:=hno.out;unfold wno at h3 ⊢;omega)
            clear hno
            go_wp2
            go_roundw
            case rel=>exact ⟨_,rfl,by omega,hno2,hB2.out _⟩
            case measure=>decide
        · have hno2:=Lib.hid (show wno 3 r from by have h3:=hno.out;unfold wno at h3 ⊢;omega)
          clear hno
          go_wp2
          go_roundw
          case rel=>exact ⟨_,rfl,by omega,hno2,hB2.out _⟩
          case measure=>decide
      · have hrow:=wrow3 wr
        unfold wrowsV at hrow
        by_cases h1 : 4352 ≤ r
        · by_cases h2 : r ≤ 4447
          · have hv : uwid r = 2:=by unfold uwid;(first | (rw [if_pos (by omega)];done) | (rw [if_neg (by omega),if_pos (by omega)]))
            replace hv:=Lib.hid hv
            clear hno
            go_wp2
            go_ret
            exact ⟨by rw [hv.out];rfl,hB2.out _⟩
          · have hno2:=Lib.hid (show wno 4 r from by have h3:=hno.out;unfold wno at h3 ⊢;omega)
            clear hno
            go_wp2
            go_roundw
            case rel=>exact ⟨_,rfl,by omega,hno2,hB2.out _⟩
            case measure=>decide
        · have hno2:=Lib.hid (show wno 4 r from by have h3:=hno.out;unfold wno at h3 ⊢;omega)
          clear hno
          go_wp2
          go_roundw
          case rel=>exact ⟨_,rfl,by omega,hno2,hB2.out _⟩
          case measure=>decide
      · have hrow:=wrow4 wr
        unfold wrowsV at hrow
        by_cases h1 : 11904 ≤ r
        · by_cases h2 : r ≤ 42191
          · have hv : uwid r = 2:=by unfold uwid;(first | (rw [if_pos (by omega)];done) | (rw [if_neg (by omega),if_pos (by omega)]))
            replace hv:=Lib.hid hv
            clear hno
            go_wp2
            go_ret
            exact ⟨by rw [hv.out];rfl,hB2.out _⟩
          · have hno2:=Lib.hid (show wno 5 r from by have h3:=hno.out;unfold wno at h3 ⊢;omega)
            clear hno
            go_wp2
            go_roundw
            case rel=>exact ⟨_,rfl,by omega,hno2,hB2.out _⟩
            case measure=>decide
        · have hno2:=Lib.hid (show wno 5 r from by have h3:=hno.out;unfold wno at h3 ⊢;omega)
          clear hno
          go_wp2
          go_roundw
          case rel=>exact ⟨_,rfl,by omega,hno2,hB2.out _⟩
          case measure=>decide
      · have hrow:=wrow5 wr
        unfold wrowsV at hrow
        by_cases h1 : 44032 ≤ r
        · by_cases h2 : r ≤ 55203
          · have hv : uwid r = 2:=by unfold uwid;(first | (rw [if_pos (by omega)];done) | (rw [if_neg (by omega),if_pos (by omega)]))
            replace hv:=Lib.hid hv
            clear hno
            go_wp2
            go_ret
            exact ⟨by rw [hv.out];rfl,hB2.out _⟩
          · have hno2:=Lib.hid (show wno 6 r from by have h3:=hno.out;unfold wno at h3 ⊢;omega)
            clear hno
            go_wp2
            go_roundw
            case rel=>exact ⟨_,rfl,by omega,hno2,hB2.out _⟩
            case measure=>decide
        · have hno2:=Lib.hid (show wno 6 r from by have h3:=hno.out;unfold wno at h3 ⊢;omega)
          clear hno
          go_wp2
          go_roundw
          case rel=>exact ⟨_,rfl,by omega,hno2,hB2.out _⟩
          case measure=>decide
      · have hrow:=wrow6 wr
        unfold wrowsV at hrow
        by_cases h1 : 63744 ≤ r
        · by_cases h2 : r ≤ 64255
          · have hv : uwid r = 2:=by unfold uwid;(first | (rw [if_pos (by omega)];done) | (rw [if_neg (by omega),if_pos (by omega)]))
            replace hv:=Lib.hid hv
            clear hno
            go_wp2
            go_ret
            exact ⟨by rw [hv.out];rfl,hB2.out _⟩
          · have hno2:=Lib.hid (show wno 7 r from by have h3:=hno.out;unfold wno at h3 ⊢;omega)
            clear hno
            go_wp2
            go_roundw
            case rel=>exact ⟨_,rfl,by omega,hno2,hB2.out _⟩
            case measure=>decide
        · have hno2:=Lib.hid (show wno 7 r from by have h3:=hno.out;unfold wno at h3 ⊢;omega)
          clear hno
          go_wp2
          go_roundw
          case rel=>exact ⟨_,rfl,by omega,hno2,hB2.out _⟩
          case measure=>decide
      · have hrow:=wrow7 wr
        unfold wrowsV at hrow
        by_cases h1 : 65280 ≤ r
        · by_cases h2 : r ≤ 65376
          · have hv : uwid r = 2:=by unfold uwid;(first | (rw [if_pos (by omega)];done) | (rw [if_neg (by omega),if_pos (by omega)]))
            replace hv:=Lib.hid hv
            clear hno
            go_wp2
            go_ret
            exact ⟨by rw [hv.out];rfl,hB2.out _⟩
          · have hno2:=Lib.hid (show wno 8 r from by have h3:=hno.out;unfold wno at h3 ⊢;omega)
            clear hno
            go_wp2
            go_roundw
            case rel=>exact ⟨_,rfl,by omega,hno2,hB2.out _⟩
            case measure=>decide
        · have hno2:=Lib.hid (show wno 8 r from by have h3:=hno.out;unfold wno at h3 ⊢;omega)
          clear hno
          go_wp2
          go_roundw
          case rel=>exact ⟨_,rfl,by omega,hno2,hB2.out _⟩
          case measure=>decide
      · have hrow:=wrow8 wr
        unfold wrowsV at hrow
        by_cases h1 : 127744 ≤ r
        · by_cases h2 : r ≤ 129791
          · have hv : uwid r = 2:=by unfold uwid;(first | (rw [if_pos (by omega)];done) | (rw [if_neg (by omega),if_pos (by omega)]))
            replace hv:=Lib.hid hv
            clear hno
            go_wp2
            go_ret
            exact ⟨by rw [hv.out];rfl,hB2.out _⟩
          · have hno2:=Lib.hid (show wno 9 r from by have h3:=hno.out;unfold wno at h3 ⊢;omega)
            clear hno
            go_wp2
            go_roundw
            case rel=>exact ⟨_,rfl,by omega,hno2,hB2.out _⟩
            case measure=>decide
        · have hno2:=Lib.hid (show wno 9 r from by have h3:=hno.out;unfold wno at h3 ⊢;omega)
          clear hno
          go_wp2
          go_roundw
          case rel=>exact ⟨_,rfl,by omega,hno2,hB2.out _⟩
          case measure=>decide
end Go.Proofs.YtpfbcepgmigeiaaGreatDoor.Q
end
section
namespace Go.Proofs.YtpfbcepgmigeiaaGreatDoor.Q
open Go.RowKit Go.Proofs.YtpfbcepgmigeiaaGreatDoorW.PrintWords Go.Proofs.YtpfbcepgmigeiaaGreatDoorW.PrintLast Go.Proofs.YtpfbcepgmigeiaaGreatDoorW.PrintMore
set_option linter.unusedVariables false
set_option linter.unusedSimpArgs false
open Go.Proofs.YtpfbcepgmigeiaaGreatDoorS
theorem grun_first {H W : Int} {bl ri be : List Bool} {way : Int} : ∀ (f : Nat) (i : Int),rd (grun H W bl ri be way f i) 0 = i
  | 0,i=>rfl
  | f + 1,i=>by
    unfold grun
    split <;> rfl
theorem gslots_first {H W : Int} {bl ri be : List Bool} : ∀ (d i : Nat) (num : Int),∀ x ∈ gslots H W bl ri be d i num,(i : Int) ≤ rd x.2.2 0 ∧ (rd x.2.2 0 = (i : Int) → x.1 = num + 1)
  | 0,_,_,x,h=>by simp [gslots] at h
  | d + 1,i,num,x,h=>by
    simp only [gslots,List.mem_append] at h
    rcases h with (h | h) | h
    · split at h
      · simp only [List.mem_singleton] at h
        subst h
        exact ⟨by rw [grun_first];exact Int.le_refl _,fun _=>rfl⟩
      · simp at h
    · split at h
      · simp only [List.mem_singleton] at h
        subst h
        exact ⟨by rw [grun_first];exact Int.le_refl _,fun _=>rfl⟩
      · simp at h
    · have:=gslots_first d (i + 1) _ x h
      exact ⟨by omega,fun e=>by omega⟩
theorem gslots_uni {H W : Int} {bl ri be : List Bool} : ∀ (d i : Nat) (num : Int),∀ x ∈ gslots H W bl ri be d i num,∀ y ∈ gslots H W bl ri be d i num,rd x.2.2 0 = rd y.2.2 0 → x.1 = y.1
  | 0,_,_,x,h,_,_,_=>by simp [gslots] at h
  | d + 1,i,num,x,hx,y,hy,e=>by
    have fx:=gslots_first (d + 1) i num x hx
    have fy:=gslots_first (d + 1) i num y hy
    by_cases hi : rd x.2.2 0 = (i : Int)
    · rw [fx.2 hi,fy.2 (e.symm.trans hi)]
    · have rest : ∀ z ∈ gslots H W bl ri be (d + 1) i num,rd z.2.2 0 ≠ (i : Int) → z ∈ gslots H W bl ri be d (i + 1) (if gbegins H W bl ri be i 0 || gbegins H W bl ri be i 1 then num + 1 else num):=by
        intro z hz hne
        simp only [gslots,List.mem_append] at hz
        rcases hz with (hz | hz) | hz
        · split at hz
          · simp only [List.mem_singleton] at hz
            subst hz
            exact absurd (grun_first _ _) hne
          · simp at hz
        · split at hz
          · simp only [List.mem_singleton] at hz
            subst hz
            exact absurd (grun_first _ _) hne
          · simp at hz
        · exact hz
      exact gslots_uni d (i + 1) _ x (rest x hx hi) y (rest y hy (fun h=>hi (e.trans h))) e
theorem slots_uni {H W : Int} {bl ri be : List Bool} : ∀ x ∈ slotsOf H W bl ri be,∀ y ∈ slotsOf H W bl ri be,rd x.f2 0 = rd y.f2 0 → x.f0 = y.f0:=by
  unfold slotsOf
  split
  · intro x hx y hy e
    obtain ⟨a,ha,rfl⟩:=List.mem_map.1 hx
    obtain ⟨b,hb,rfl⟩:=List.mem_map.1 hy
    exact gslots_uni _ _ _ a ha b hb e
  · intro x hx
    cases hx
def numB (L : List S48) (i : Int) : ByteArray:=match L.find? (fun x=>rd x.f2 0 == i) with | some x=>itoaB x.f0 | none=>⟨#[]⟩
theorem rd_put {acc : List ByteArray} {a i : Int} {v : ByteArray} (h0 : 0 ≤ i) (h1 : i < acc.length) (ha : 0 ≤ a) : rdOf ByteArray.empty (acc.set a.toNat v) i = if a = i then v else rdOf ByteArray.empty acc i:=by
  unfold rdOf
  rw [List.getD_eq_getElem?_getD,List.getD_eq_getElem?_getD,List.getElem?_set]
  by_cases e : a = i
  · subst e
    rw [if_pos rfl,if_pos (by omega),if_pos rfl]
    rfl
  · rw [if_neg (by omega),if_neg e]
theorem fold_find {i : Int} (h0 : 0 ≤ i) : ∀ (L : List S48) (acc : List ByteArray),i < acc.length → (∀ x ∈ L,0 ≤ rd x.f2 0) → (∀ x ∈ L,∀ y ∈ L,rd x.f2 0 = rd y.f2 0 → x.f0 = y.f0) → rdOf ByteArray.empty (L.foldl (fun acc x=>acc.set (rdOf 0 x.f2 0).toNat (itoaB x.f0)) acc) i = match L.find? (fun x=>rd x.f2 0 == i) with | some x=>itoaB x.f0 | none=>rdOf ByteArray.empty acc i
  | [],acc,_,_,_=>rfl
  | x :: L,acc,h1,hp,hu=>by
    have ih:=fold_find h0 L (acc.set (rd x.f2 0).toNat (itoaB x.f0)) (by rw [List.length_set];exact h1) (fun y hy=>hp y (List.mem_cons_of_mem _ hy)) (fun y hy z hz=>hu y (List.mem_cons_of_mem _ hy) z (List.mem_cons_of_mem _ hz))
    have hs:=rd_put (v:=itoaB x.f0) h0 h1 (hp x List.mem_cons_self)
    rw [List.foldl_cons]
    refine Eq.trans ih ?_
    rw [List.find?_cons]
    by_cases e : rd x.f2 0 = i
    · have eb : (rd x.f2 0 == i) = true:=by rw [e];simp
      rw [eb]
      simp only
      cases hf : L.find? (fun x=>rd x.f2 0 == i) with
      | none=>simp only;rw [hs,if_pos e]
      | some y =>
        simp only
        have hm:=List.mem_of_find?_eq_some hf
        have hy:=List.find?_some hf
        have ey : rd y.f2 0 = i:=by simpa using hy
        rw [hu x List.mem_cons_self y (List.mem_cons_of_mem _ hm) (e.trans ey.symm)]
    · have eb : (rd x.f2 0 == i) = false:=by simpa using e
      rw [eb]
      simp only
      cases hf : L.find? (fun x=>rd x.f2 0 == i) with
      | none=>simp only;rw [hs,if_neg e]
      | some y=>rfl
theorem nums_find {H W : Int} {bl ri be : List Bool} (hc : gcheck H W bl ri be = 0) {n : Nat} {i : Int} (h0 : 0 ≤ i) (h1 : i < n) : rdOf ByteArray.empty (pnums (slotsOf H W bl ri be) n) i = numB (slotsOf H W bl ri be) i:=by
  unfold pnums numB
  rw [fold_find h0 _ _ (by rw [List.length_replicate];exact h1) (fun x hx=>(slots_first hc x hx).2.1) slots_uni]
  have e : rdOf ByteArray.empty (List.replicate n (⟨#[]⟩ : ByteArray)) i = ⟨#[]⟩:=by
    unfold rdOf
    rw [List.getD_eq_getElem?_getD,List.getElem?_replicate]
    split <;> rfl
  rw [e]
end Go.Proofs.YtpfbcepgmigeiaaGreatDoor.Q
end
