/- PART 17 OF A PROOF: Lean functions, and that the program computes them; written by hand and by a program. Not trusted: Lean checks it. -/
import Derived.LaidLaws
import Derived.Stop.LaidErr
import Derived.WalkMore
import Derived.Test.YtjopbfidjapmbaaGreatDoorTa14
import Derived.Test.YtjopbfidjapmbaaGreatDoorTa15
import Derived.Test.YtjopbfidjapmbaaGreatDoorTa16
set_option linter.unusedVariables false
set_option linter.unusedSimpArgs false
section
namespace Go.Proofs.YtjopbfidjapmbaaGreatDoor.Q
open Go.RowKit Go.Proofs.YtjopbfidjapmbaaGreatDoorW.PrintWords Go.Proofs.YtjopbfidjapmbaaGreatDoorW.PrintLast Go.Proofs.YtjopbfidjapmbaaGreatDoorW.PrintMore
set_option linter.unusedVariables false
set_option linter.unusedSimpArgs false
open Go.Proofs.YtjopbfidjapmbaaGreatDoorS
open Go.Lib
def GoodB (a : Act3) : Prop:=goodA a = true ∧ a.f1 ≤ 999999999
def Stuck (rest : List UInt8) : Prop:=∀ a r,GoodB a → rest ≠ lineL a ++ 10 :: r
structure Rd (text : List UInt8) (log : List Act3) (rest : List UInt8) : Prop where
  g : ∀ a ∈ log,GoodB a
  t : text = joinL log ++ rest
  s : Stuck rest
theorem split_ten : ∀ {l m x y : List UInt8},(∀ b ∈ l,b ≠ 10) → (∀ b ∈ m,b ≠ 10) → l ++ 10 :: x = m ++ 10 :: y → l = m ∧ x = y
  | [],[],x,y,_,_,h=>⟨rfl,by injection h⟩
  | [],c :: m,x,y,_,hm,h=>by
    simp only [List.nil_append,List.cons_append] at h
    injection h with h1 h2
    exact absurd h1.symm (hm c List.mem_cons_self)
  | c :: l,[],x,y,hl,_,h=>by
    simp only [List.nil_append,List.cons_append] at h
    injection h with h1 h2
    exact absurd h1 (hl c List.mem_cons_self)
  | c :: l,d :: m,x,y,hl,hm,h=>by
    simp only [List.cons_append] at h
    injection h with h1 h2
    obtain ⟨e1,e2⟩:=split_ten (fun b hb=>hl b (List.mem_cons_of_mem _ hb)) (fun b hb=>hm b (List.mem_cons_of_mem _ hb)) h2
    exact ⟨by rw [h1,e1],e2⟩
theorem data_inj {x y : ByteArray} (h : x.data.toList = y.data.toList) : x = y:=by rw [← ba_eta x,h,ba_eta]
theorem dec_inj {m n : Nat} (h : decDigits m = decDigits n) : m = n:=by
  have h1:=dec_from m
  rw [h,dec_from n] at h1
  injection h1 with h1
  exact h1.symm
theorem line_inj {a b : Act3} (ha : goodA a = true) (hb : goodA b = true) (h : lineL a = lineL b) : a = b:=by
  have hl:=line_nm hb
  have hl2:=line_nm ha
  have hm : ∀ (k : Int) (r : List UInt8),tyL ++ r ≠ nmL k ∧ mvL ++ r ≠ nmL k:=nm_head
  have ht : ∀ r q : List UInt8,tyL ++ r ≠ mvL ++ q:=fun r q e=>by
    have:=congrArg (fun l : List UInt8=>l.head?) e
    revert this
    simp [tyL,mvL]
  rcases good_kind ha with ⟨a1,a2,a3⟩ | ⟨a1,a2,a3⟩ | ⟨a1,a2,a3⟩
  · have e1 : lineL a = tyL ++ a.f2.data.toList:=by unfold lineL;rw [if_pos a1]
    rcases good_kind hb with ⟨b1,b2,b3⟩ | ⟨b1,b2,b3⟩ | ⟨b1,b2,b3⟩
    · have e2 : lineL b = tyL ++ b.f2.data.toList:=by unfold lineL;rw [if_pos b1]
      rw [e1,e2] at h
      have h2:=data_inj (List.append_cancel_left h)
      cases a;cases b
      simp only at a1 a2 b1 b2 h2
      rw [a1,a2,b1,b2,h2]
    · have e2 : lineL b = mvL ++ itoa b.f1:=by unfold lineL;rw [if_neg (by omega),if_pos b1]
      rw [e1,e2] at h
      exact absurd h (ht _ _)
    · have e2:=(hl b.f0).2 ⟨rfl,by omega,by omega⟩
      rw [e1,e2] at h
      exact absurd h (hm _ _).1
  · have e1 : lineL a = mvL ++ itoa a.f1:=by unfold lineL;rw [if_neg (by omega),if_pos a1]
    rcases good_kind hb with ⟨b1,b2,b3⟩ | ⟨b1,b2,b3⟩ | ⟨b1,b2,b3⟩
    · have e2 : lineL b = tyL ++ b.f2.data.toList:=by unfold lineL;rw [if_pos b1]
      rw [e1,e2] at h
      exact absurd h.symm (ht _ _)
    · have e2 : lineL b = mvL ++ itoa b.f1:=by unfold lineL;rw [if_neg (by omega),if_pos b1]
      rw [e1,e2] at h
      have h2:=List.append_cancel_left h
      rw [dec_itoa a2,dec_itoa b2] at h2
      have h3:=dec_inj h2
      have h4 : a.f1 = b.f1:=by omega
      cases a;cases b
      simp only at a1 b1 a3 b3 h4
      rw [a1,b1,a3,b3,h4]
    · have e2:=(hl b.f0).2 ⟨rfl,by omega,by omega⟩
      rw [e1,e2] at h
      exact absurd h (hm _ _).2
  · have e1:=(hl2 a.f0).2 ⟨rfl,by omega,by omega⟩
    rw [e1] at h
    have h2:=(hl a.f0).1 h.symm
    rcases good_kind hb with ⟨b1,b2,b3⟩ | ⟨b1,b2,b3⟩ | ⟨b1,b2,b3⟩
    · exact absurd b1 h2.2.1
    · exact absurd b1 h2.2.2
    · have h5:=h2.1
      cases a;cases b
      simp only at a2 a3 b2 b3 h5
      rw [a2,a3,b2,b3,h5]
theorem joinL_one (a : Act3) (l : List Act3) : joinL (a :: l) = lineL a ++ 10 :: joinL l:=by simp [joinL]
theorem Rd.uniq : ∀ {l m : List Act3} {text r q : List UInt8},Rd text l r → Rd text m q → l = m ∧ r = q
  | [],[],text,r,q,h1,h2=>⟨rfl,by have e1:=h1.t;have e2:=h2.t;rw [e1] at e2;exact e2⟩
  | [],b :: m,text,r,q,h1,h2=>by
    have e1:=h1.t
    have e2:=h2.t
    rw [e1,joinL_one] at e2
    exact absurd (show r = lineL b ++ 10 :: (joinL m ++ q) by simpa [joinL] using e2) (h1.s b _ (h2.g b List.mem_cons_self))
  | a :: l,[],text,r,q,h1,h2=>by
    have e1:=h1.t
    have e2:=h2.t
    rw [e2,joinL_one] at e1
    exact absurd (show q = lineL a ++ 10 :: (joinL l ++ r) by simpa [joinL] using e1) (h2.s a _ (h1.g a List.mem_cons_self))
  | a :: l,b :: m,text,r,q,h1,h2=>by
    have e1:=h1.t
    have e2:=h2.t
    rw [e1,joinL_one,joinL_one,List.append_assoc,List.append_assoc,List.cons_append,List.cons_append] at e2
    obtain ⟨e3,e4⟩:=split_ten (line_no (h1.g a List.mem_cons_self).1) (line_no (h2.g b List.mem_cons_self).1) e2
    have e5:=line_inj (h1.g a List.mem_cons_self).1 (h2.g b List.mem_cons_self).1 e3
    obtain ⟨e6,e7⟩:=Rd.uniq (text:=joinL l ++ r) ⟨fun x hx=>h1.g x (List.mem_cons_of_mem _ hx),rfl,h1.s⟩ ⟨fun x hx=>h2.g x (List.mem_cons_of_mem _ hx),e4,h2.s⟩
    exact ⟨by rw [e5,e6],e7⟩
theorem stuck_nil : Stuck []:=fun a r _ e=>by cases h : lineL a <;> rw [h] at e <;> cases e
theorem stuck_line {s r : List UInt8} (hno : ∀ b ∈ s,b ≠ 10) (h : ∀ a,GoodB a → lineL a ≠ s) : Stuck (s ++ 10 :: r):=fun a q ha e=>h a ha (split_ten hno (line_no ha.1) e).1.symm
theorem stuck_open {s : List UInt8} (hno : ∀ b ∈ s,b ≠ 10) : Stuck s:=fun a q ha e=>by
  have : (10 : UInt8) ∈ s:=by rw [e];simp
  exact hno _ this rfl
def RdIs (text : ByteArray) (log : List Act3) (r c : Int) : Prop :=
  (65536 < text.size ∧ log = [] ∧ r = 0 ∧ c = 1) ∨ (text.size ≤ 65536 ∧ ((Rd text.data.toList log [] ∧ r = 0 ∧ c = 0) ∨ (∃ l rest,rest ≠ [] ∧ Rd text.data.toList l rest ∧ log = [] ∧ r = (l.length : Int) ∧ c = 221)))
theorem RdIs.uniq {text : ByteArray} {l m : List Act3} {r c q d : Int} (h1 : RdIs text l r c) (h2 : RdIs text m q d) : l = m ∧ r = q ∧ c = d:=by
  rcases h1 with ⟨a1,rfl,rfl,rfl⟩ | ⟨a1,h1⟩
  · rcases h2 with ⟨_,rfl,rfl,rfl⟩ | ⟨b1,_⟩
    · exact ⟨rfl,rfl,rfl⟩
    · omega
  · rcases h2 with ⟨b1,_⟩ | ⟨b1,h2⟩
    · omega
    · rcases h1 with ⟨x1,rfl,rfl⟩ | ⟨u,rest,hr,x1,rfl,rfl,rfl⟩
      · rcases h2 with ⟨y1,rfl,rfl⟩ | ⟨v,rest2,hr2,y1,rfl,rfl,rfl⟩
        · exact ⟨(x1.uniq y1).1,rfl,rfl⟩
        · exact absurd (x1.uniq y1).2.symm hr2
      · rcases h2 with ⟨y1,rfl,rfl⟩ | ⟨v,rest2,hr2,y1,rfl,rfl,rfl⟩
        · exact absurd (x1.uniq y1).2 hr
        · exact ⟨rfl,by rw [(x1.uniq y1).1],rfl⟩
def WrIs (log : List Act3) (s : ByteArray) (r c : Int) : Prop :=
  ((∀ a ∈ log,goodA a = true) ∧ s = ⟨(joinL log).toArray⟩ ∧ r = 0 ∧ c = 0) ∨ (∃ n : Nat,n < log.length ∧ (∀ a ∈ log.take n,goodA a = true) ∧ goodA (acN log n) = false ∧ s = ⟨#[]⟩ ∧ r = (n : Int) ∧ c = 231)
theorem wr_place {log : List Act3} {m n : Nat} (hm : m < log.length) (h1 : goodA (acN log m) = false) (h2 : ∀ a ∈ log.take n,goodA a = true) : n ≤ m:=by
  refine Nat.le_of_not_lt fun h=>?_
  have e : acN log m = log[m]:=by unfold acN;rw [List.getD_eq_getElem?_getD,List.getElem?_eq_getElem hm];rfl
  have h3 : log[m] ∈ log.take n:=by
    have h4 : m < (log.take n).length:=by rw [List.length_take];omega
    have e2 : (log.take n)[m] = log[m]:=List.getElem_take
    rw [← e2]
    exact List.getElem_mem h4
  rw [e] at h1
  rw [h2 _ h3] at h1
  cases h1
theorem WrIs.uniq {log : List Act3} {s t : ByteArray} {r c q d : Int} (h1 : WrIs log s r c) (h2 : WrIs log t q d) : s = t ∧ r = q ∧ c = d:=by
  rcases h1 with ⟨a1,rfl,rfl,rfl⟩ | ⟨m,hm,a1,a2,rfl,rfl,rfl⟩
  · rcases h2 with ⟨_,rfl,rfl,rfl⟩ | ⟨n,hn,b1,b2,rfl,rfl,rfl⟩
    · exact ⟨rfl,rfl,rfl⟩
    · rw [a1 _ (acN_mem hn)] at b2
      cases b2
  · rcases h2 with ⟨b1,rfl,rfl,rfl⟩ | ⟨n,hn,b1,b2,rfl,rfl,rfl⟩
    · rw [b1 _ (acN_mem hm)] at a2
      cases a2
    · have h3:=wr_place hm a2 b1
      have h4:=wr_place hn b2 a1
      have h5 : m = n:=by omega
      exact ⟨rfl,by rw [h5],rfl⟩
theorem back_one {text : ByteArray} {log : List Act3} (h : Rd text.data.toList log []) {s : ByteArray} {r c : Int} (hw : WrIs log s r c) : s = text ∧ c = 0:=by
  rcases hw with ⟨_,rfl,rfl,rfl⟩ | ⟨n,hn,_,b2,_⟩
  · refine ⟨?_,rfl⟩
    have e:=h.t
    rw [List.append_nil] at e
    rw [← e,ba_eta]
  · rw [(h.g _ (acN_mem hn)).1] at b2
    cases b2
theorem back_two {log m : List Act3} {s : ByteArray} {r : Int} (hw : WrIs log s r 0) (hs : s.size ≤ 65536) (hf : ∀ a ∈ log,a.f1 ≤ 999999999) {q d : Int} (hr : RdIs s m q d) : m = log ∧ d = 0:=by
  rcases hw with ⟨h1,rfl,rfl,_⟩ | ⟨n,_,_,_,_,_,h⟩
  · have hd : RdIs (⟨(joinL log).toArray⟩ : ByteArray) log 0 0:=.inr ⟨hs,.inl ⟨⟨fun a ha=>⟨h1 a ha,hf a ha⟩,by rw [List.append_nil],stuck_nil⟩,rfl,rfl⟩⟩
    have:=hr.uniq hd
    exact ⟨this.1,this.2.2⟩
  · cases h
theorem dec_lt : ∀ (k n : Nat),(decDigits n).length ≤ k → n < 10 ^ k
  | 0,n,h=>absurd (List.length_eq_zero_iff.1 (Nat.le_zero.1 h)) (dec_ne n)
  | k + 1,n,h=>by
    rw [decDigits] at h
    split at h
    · have : 10 ≤ 10 ^ (k + 1):=by rw [Nat.pow_succ];have h9 : 0 < 10 ^ k:=Nat.pos_of_ne_zero (by simp);omega
      omega
    · rw [List.length_append,List.length_singleton] at h
      have:=dec_lt k (n / 10) (by omega)
      rw [Nat.pow_succ]
      omega
theorem bad_nm {s : List UInt8} (h : ∀ a,GoodB a → lineL a ≠ s) (hne : s ≠ []) (k : Int) : s ≠ nmL k:=by
  intro e
  by_cases hk : k = 2 ∨ k = 4 ∨ k = 5 ∨ k = 6 ∨ k = 7
  · have hg : goodA ⟨k,0,⟨#[]⟩⟩ = true:=by
      rcases hk with rfl | rfl | rfl | rfl | rfl <;> kernel_rfl
    refine h ⟨k,0,⟨#[]⟩⟩ ⟨hg,show (0 : Int) ≤ 999999999 by decide⟩ ?_
    rw [e]
    exact (line_nm hg k).2 ⟨rfl,by show k ≠ 1;omega,by show k ≠ 3;omega⟩
  · have : nmL k = []:=Classical.byContradiction fun hn=>hk (nm_ne.1 hn)
    rw [this] at e
    exact hne e
theorem pre_is {s p : List UInt8} (h : hasPrefix s p = true) : s = p ++ trimPrefix s p:=by
  have h2:=h
  unfold hasPrefix at h2
  obtain ⟨r,rfl⟩:=List.isPrefixOf_iff_prefix.1 h2
  congr 1
  unfold trimPrefix
  rw [if_pos h]
  simp
theorem index_not : ∀ (l : List UInt8),(∀ b ∈ l,b ≠ 10) → index l [10] = -1
  | [],_=>rfl
  | c :: l,h=>by
    have ih:=index_not l (fun b hb=>h b (List.mem_cons_of_mem _ hb))
    unfold index
    rw [if_neg (by simp;exact fun e=>h c List.mem_cons_self e.symm),ih]
    rfl
theorem bad_ty {s : List UInt8} (h : ∀ a,GoodB a → lineL a ≠ s) (hno : ∀ b ∈ s,b ≠ 10) (hp : hasPrefix s tyL = true) : trimPrefix s tyL = []:=by
  have e:=pre_is hp
  obtain ⟨r,hr⟩ : ∃ r,trimPrefix s tyL = r:=⟨_,rfl⟩
  rw [hr] at e ⊢
  refine Classical.byContradiction fun hn=>?_
  have hr2 : (⟨r.toArray⟩ : ByteArray).toList.isEmpty = false:=by
    rw [ByteArray.toList_eq]
    cases r with
    | nil=>exact absurd rfl hn
    | cons x y=>rfl
  have hi : index (⟨r.toArray⟩ : ByteArray).data.toList [10] = -1:=index_not r fun b hb=>hno b (by rw [e];exact List.mem_append_right _ hb)
  refine h ⟨1,0,⟨r.toArray⟩⟩ ⟨?_,show (0 : Int) ≤ 999999999 by decide⟩ ?_
  · unfold goodA
    rw [if_pos rfl]
    show (decide ((0 : Int) = 0) && !(⟨r.toArray⟩ : ByteArray).toList.isEmpty && !decide (0 ≤ index (⟨r.toArray⟩ : ByteArray).data.toList [10])) = true
    rw [hr2,hi]
    rfl
  · rw [e]
    rfl
theorem bad_mv {s : List UInt8} (h : ∀ a,GoodB a → lineL a ≠ s) {n : Int} (h0 : 0 ≤ n) (hl : (itoa n).length ≤ 9) (hp : hasPrefix s mvL = true) : itoa n ≠ trimPrefix s mvL:=by
  intro e
  have e1:=pre_is hp
  rw [dec_itoa h0] at hl
  have hn:=dec_lt 9 _ hl
  refine h ⟨3,n,⟨#[]⟩⟩ ⟨?_,by show n ≤ 999999999;omega⟩ ?_
  · unfold goodA
    rw [if_neg (show ¬ ((3 : Int) = 1) by decide),if_pos rfl]
    show (decide (0 ≤ n) && (⟨#[]⟩ : ByteArray).toList.isEmpty) = true
    rw [decide_eq_true h0,ByteArray.toList_eq]
    rfl
  · rw [e1,← e]
    rfl
end Go.Proofs.YtjopbfidjapmbaaGreatDoor.Q
end
section
namespace Go.Proofs.YtjopbfidjapmbaaGreatDoor.Q
open Go.RowKit Go.Proofs.YtjopbfidjapmbaaGreatDoorW.PrintWords Go.Proofs.YtjopbfidjapmbaaGreatDoorW.PrintLast Go.Proofs.YtjopbfidjapmbaaGreatDoorW.PrintMore
set_option linter.unusedVariables false
set_option linter.unusedSimpArgs false
open Go.Proofs.YtjopbfidjapmbaaGreatDoorS
structure ErrT (w : World) : Prop where
  s : ∃ te pe,w.cell? ⟨1,0,none⟩ = some (.iface te pe)
  r : ∃ te pe,w.cell? ⟨2,0,none⟩ = some (.iface te pe)
theorem errt_below {w w' : World} (h : ErrT w) (hb : Below w.heap.size w w') : ErrT w':=by
  obtain ⟨⟨a,b,h1⟩,⟨c,d,h2⟩⟩:=h
  exact ⟨⟨a,b,pw_cell_below hb h1⟩,⟨c,d,pw_cell_below hb h2⟩⟩
theorem atoi_ok {s : ByteArray} (hs : s.size ≤ 65536) {v : Int} (h : Lib.atoiAll s.data.toList = .ok v) (w : World) :
    Calls Tryz.prog 48 #[.string s] w fun e w'=>e = .returned (.tuple #[.int .i64 v,.nilIface]) ∧ Below w.heap.size w w':=by
  refine (Tryz.strconv_Atoi_ok s (by omega) v h w).mono ?_
  rintro e w' ⟨rfl,hw | ⟨t,hw⟩⟩
  · exact ⟨rfl,by rw [hw];exact Below.refl _ _⟩
  · exact ⟨rfl,by rw [hw];exact Lib.bytesWorld_below _ _ _⟩
theorem atoi_no {s : ByteArray} (hs : s.size ≤ 65536) (h : ∀ v,Lib.atoiAll s.data.toList ≠ .ok v) (w : World) (hE : ErrT w) :
    Calls Tryz.prog 48 #[.string s] w fun e w'=>(∃ n te pe,e = .returned (.tuple #[.int .i64 n,.iface te pe])) ∧ Below w.heap.size w w':=by
  obtain ⟨⟨a,b,h1⟩,⟨c,d,h2⟩⟩:=hE
  rcases hc : Lib.atoiAll s.data.toList with v | _ | _
  · exact absurd hc (h v)
  · refine (Any.strconv_Atoi_syntax Tryz.laysC172 s (by omega) hc _ w h1 (.inr ⟨_,_,rfl⟩)).mono ?_
    rintro e w' ⟨N,rfl,_,_,hb⟩
    exact ⟨⟨_,_,_,rfl⟩,hb⟩
  · refine (Tryz.strconv_Atoi_range s (by omega) hc _ w h2 (.inr ⟨_,_,rfl⟩)).mono ?_
    rintro e w' ⟨N,rfl,_,_,hb⟩
    exact ⟨⟨_,_,_,rfl⟩,hb⟩
theorem ba_len {x : ByteArray} {l : List UInt8} (h : x.data.toList = l) : x.size = l.length:=by
  rw [← h,Array.length_toList]
  rfl
set_option maxHeartbeats 8000000 in
set_option maxRecDepth 1000000 in
theorem actn_calls {s : ByteArray} {w : World} (hT : Tabs w) (hE : ErrT w) (hs : s.size ≤ 65536) (hno : ∀ b ∈ s.data.toList,b ≠ 10) (hbad : ∀ a,GoodB a → lineL a ≠ s.data.toList) :
    Calls Tryz.prog 26 #[.string s] w fun e w'=>(∃ a : Act3,e = .returned (.tuple #[.agg #[.int .i64 a.f0,.int .i64 a.f1,.string a.f2],.bool false])) ∧ Below w.heap.size w w':=by
  have hx:=box1 w (.cells #[.int .i64 0,.int .i64 0,.string ⟨#[]⟩] 35)
  replace hx:=Lib.hid hx
  have hu:=Tryz.underlying35
  replace hno:=Lib.hid hno
  replace hbad:=Lib.hid hbad
  go_enter Tryz.func26,Tryz.ntmps26
  go_wp2
  go_loopw [4] (fun v4 wr=>∃ q : Int,v4 = .int .i64 q ∧ Hid (1 ≤ q ∧ q ≤ 8) ∧ Hid (wr.heap[w.heap.size]? = some (.cells #[.int .i64 0,.int .i64 0,.string ⟨#[]⟩] 35 (0,0))) ∧ Hid (Below w.heap.size w wr)) (fun v4 _=>8 - (intOf v4).toNat)
  case atStart=>exact ⟨1,rfl,Lib.hid (by decide),Lib.hid hx.out.1,Lib.hid hx.out.2⟩
  case round =>
    obtain ⟨q,rfl,hq,hX,hB⟩:=hrel
    have tx:=cells3 hX.out
    have tf:=frozen3 hX.out
    by_cases hlt : q ≤ 7
    · have hq3 : q < 100:=by omega
      have hq0 : 0 ≤ q:=by have:=hq.out;omega
      cases hne : s.toList.isEmpty with
      | true =>
        go_wp2
        refine ⟨⟨q + 1,rfl,Lib.hid ⟨by have:=hq.out;omega,by omega⟩,hX,hB⟩,?_⟩
        simp only [intOf];have:=hq.out;omega
      | false =>
        have hbq : (s.toList == (plainB q).toList) = false:=by
          rw [beq_nm rfl q]
          refine decide_eq_false (bad_nm hbad.out (fun e=>?_) q)
          rw [ByteArray.toList_eq,e] at hne
          cases hne
        go_wp2_with (first
          | (go_at_call 42;go_must (refine plain_calls.mono ?_;rintro e w3 ⟨rfl,hb⟩;have hB3:=Lib.hid (below_step hB.out hb);have X3:=Lib.hid (blk_below hX.out hb);clear hb)))
        refine ⟨⟨q + 1,rfl,Lib.hid ⟨by have:=hq.out;omega,by omega⟩,X3,hB3⟩,?_⟩
        simp only [intOf];have:=hq.out;omega
    · have hq8 : q = 8:=by have:=hq.out;omega
      subst hq8
      have hct:=Tryz.strings_CutPrefix s ⟨#[116,121,112,101,32]⟩ wr
      cases hp : Lib.hasPrefix s.data.toList tyL with
      | true =>
        have e1 : Lib.trimPrefix s.data.toList (⟨#[116,121,112,101,32]⟩ : ByteArray).data.toList = []:=bad_ty hbad.out hno.out hp
        have e2 : Lib.hasPrefix s.data.toList (⟨#[116,121,112,101,32]⟩ : ByteArray).data.toList = true:=hp
        rw [e1,e2] at hct
        clear e1 e2 hp
        replace hct:=Lib.hid hct
        go_wp2_with (first
          | (go_at_call 47;go_must (refine hct.out.mono ?_;rintro e w3 ⟨rfl,hw⟩;rw [hw];clear hw w3))
          | ((with_reducible refine gate_store (t:=35) (p:=2) (v:=.tmp 32) rfl ?_);go_must (refine store_event (w1:=put3 wr w.heap.size (.int .i64 1) (.int .i64 0) (.string ⟨#[]⟩)) (by rfl) (by rfl) (by rfl) ?hr ?_;(case hr=>first | (go_simp;done) | (go_simp;rfl));intro w5 hw5;have Fw5:=put3_facts hX.out (.int .i64 1) (.int .i64 0) (.string ⟨#[]⟩);rw [← hw5] at Fw5;clear hw5)))
        refine bodyPost_ret (results_ct rfl _ _ w.heap.size 35 #[.int .i64 1,.int .i64 0,.string ⟨#[]⟩] (0,0) _ rfl Fw5.1 Tryz.underlying35 rfl (by kernel_rfl)) rfl ?_
        exact ⟨⟨⟨1,0,⟨#[]⟩⟩,rfl⟩,Fw5.2.2 _ _ hB.out (Nat.le_refl _)⟩
      | false =>
        have e1 : Lib.hasPrefix s.data.toList (⟨#[116,121,112,101,32]⟩ : ByteArray).data.toList = false:=hp
        rw [e1] at hct
        have hcm:=Tryz.strings_CutPrefix s ⟨#[109,111,118,101,32]⟩ wr
        clear e1 hp
        replace hct:=Lib.hid hct
        cases hp : Lib.hasPrefix s.data.toList mvL with
        | false =>
          have e1 : Lib.hasPrefix s.data.toList (⟨#[109,111,118,101,32]⟩ : ByteArray).data.toList = false:=hp
          have e2 : Lib.trimPrefix s.data.toList (⟨#[109,111,118,101,32]⟩ : ByteArray).data.toList = s.data.toList:=by unfold Lib.trimPrefix;rw [e1];rfl
          rw [e1,e2,ba_eta] at hcm
          clear e1 e2 hp
          replace hcm:=Lib.hid hcm
          have hds:=hs
          by_cases hat : ∃ v,Lib.atoiAll s.data.toList = .ok v
          · obtain ⟨n,hat⟩:=hat
            replace hat:=Lib.hid hat
            have tok1 : True:=trivial
            go_wp2_with (first
              | (go_at_call 47;have tq:=tok1;go_must (clear tq tok1;refine hct.out.mono ?_;rintro e w3 ⟨rfl,hw⟩;rw [hw];clear hw w3))
              | (go_at_call 47;go_must (refine hcm.out.mono ?_;rintro e w3 ⟨rfl,hw⟩;rw [hw];clear hw w3))
              | (go_at_call 48;go_must (refine (atoi_ok hds hat.out wr).mono ?_;rintro e w3 ⟨rfl,hb⟩;have hB3:=Lib.hid (below_step hB.out hb);have X3:=Lib.hid (blk_below hX.out hb);clear hb tx tf;have x3:=cells3 X3.out;have f3:=frozen3 X3.out))
              | ((with_reducible refine gate_store (t:=35) (p:=2) (v:=.tmp 46) rfl ?_);go_must (refine store_event (w1:=put3 w3 w.heap.size (.int .i64 3) (.int .i64 n) (.string ⟨#[]⟩)) (by rfl) (by rfl) (by rfl) ?hr ?_;(case hr=>first | (go_simp;done) | (go_simp;rfl));intro w5 hw5;have Fw5:=put3_facts X3.out (.int .i64 3) (.int .i64 n) (.string ⟨#[]⟩);rw [← hw5] at Fw5;clear hw5)))
            refine bodyPost_ret (results_ct rfl _ _ w.heap.size 35 #[.int .i64 3,.int .i64 n,.string ⟨#[]⟩] (0,0) _ rfl Fw5.1 Tryz.underlying35 rfl (by kernel_rfl)) rfl ?_
            exact ⟨⟨⟨3,n,⟨#[]⟩⟩,rfl⟩,Fw5.2.2 _ _ hB3.out (Nat.le_refl _)⟩
          · have hat2 : ∀ v,Lib.atoiAll s.data.toList ≠ .ok v:=fun v e=>hat ⟨v,e⟩
            clear hat
            have hat:=Lib.hid hat2
            clear hat2
            have tok1 : True:=trivial
            go_wp2_with (first
              | (go_at_call 47;have tq:=tok1;go_must (clear tq tok1;refine hct.out.mono ?_;rintro e w3 ⟨rfl,hw⟩;rw [hw];clear hw w3))
              | (go_at_call 47;go_must (refine hcm.out.mono ?_;rintro e w3 ⟨rfl,hw⟩;rw [hw];clear hw w3))
              | (go_at_call 48;go_must (refine (atoi_no hds hat.out wr (errt_below hE hB.out)).mono ?_;rintro e w3 ⟨⟨n,te,pe,rfl⟩,hb⟩;have hB3:=Lib.hid (below_step hB.out hb);have X3:=Lib.hid (blk_below hX.out hb);clear hb tx tf;have x3:=cells3 X3.out;have f3:=frozen3 X3.out))
              | ((with_reducible refine gate_store (t:=35) (p:=2) (v:=.tmp 46) rfl ?_);go_must (refine store_event (w1:=put3 w3 w.heap.size (.int .i64 3) (.int .i64 n) (.string ⟨#[]⟩)) (by rfl) (by rfl) (by rfl) ?hr ?_;(case hr=>first | (go_simp;done) | (go_simp;rfl));intro w5 hw5;have Fw5:=put3_facts X3.out (.int .i64 3) (.int .i64 n) (.string ⟨#[]⟩);rw [← hw5] at Fw5;clear hw5)))
            refine bodyPost_ret (results_ct rfl _ _ w.heap.size 35 #[.int .i64 3,.int .i64 n,.string ⟨#[]⟩] (0,0) _ rfl Fw5.1 Tryz.underlying35 rfl (by kernel_rfl)) rfl ?_
            exact ⟨⟨⟨3,n,⟨#[]⟩⟩,rfl⟩,Fw5.2.2 _ _ hB3.out (Nat.le_refl _)⟩
        | true =>
          have e1 : Lib.hasPrefix s.data.toList (⟨#[109,111,118,101,32]⟩ : ByteArray).data.toList = true:=hp
          have hmv:=Lib.hid (fun (n : Int) h0 hl=>bad_mv (n:=n) hbad.out h0 hl hp)
          obtain ⟨dg,hdg⟩ : ∃ d : ByteArray,(⟨(Lib.trimPrefix s.data.toList mvL).toArray⟩ : ByteArray) = d:=⟨_,rfl⟩
          have hdl : dg.data.toList = Lib.trimPrefix s.data.toList mvL:=by rw [← hdg]
          have hds : dg.size ≤ 65536:=by
            have h1 : dg.size = dg.data.toList.length:=ba_len rfl
            have h2 : s.size = s.data.toList.length:=ba_len rfl
            have h3:=congrArg List.length (pre_is hp)
            rw [List.length_append] at h3
            rw [hdl] at h1
            omega
          have e2 : Lib.trimPrefix s.data.toList (⟨#[109,111,118,101,32]⟩ : ByteArray).data.toList = Lib.trimPrefix s.data.toList mvL:=rfl
          rw [e1,e2,hdg] at hcm
          clear e1 e2 hp hdg
          replace hcm:=Lib.hid hcm
          by_cases hat : ∃ v,Lib.atoiAll dg.data.toList = .ok v
          · obtain ⟨n,hat⟩:=hat
            have hnb:=Lib.atoiAll_bounds hat
            replace hat:=Lib.hid hat
            by_cases hn0 : 0 ≤ n
            · have d1 : decide (n ≥ 0) = true:=decide_eq_true hn0
              have d2 : decide (0 ≤ n) = true:=decide_eq_true hn0
              by_cases hl9 : dg.size ≤ 9
              · have d3 : decide ((dg.size : Int) ≤ 9) = true:=decide_eq_true (by omega)
                obtain ⟨it,hit⟩ : ∃ d : ByteArray,(⟨(Lib.itoa n).toArray⟩ : ByteArray) = d:=⟨_,rfl⟩
                have hdd : (it.toList == dg.toList) = false:=by
                  refine beq_eq_false_iff_ne.2 fun e=>?_
                  rw [ByteArray.toList_eq,ByteArray.toList_eq,hdl,← hit] at e
                  have e3 : Lib.itoa n = Lib.trimPrefix s.data.toList mvL:=e
                  refine hmv.out n hn0 ?_ e3
                  rw [e3,← hdl]
                  have h1 : dg.size = dg.data.toList.length:=ba_len rfl
                  omega
                have tok1 : True:=trivial
                go_wp2_with (first
                  | (go_at_call 47;have tq:=tok1;go_must (clear tq tok1;refine hct.out.mono ?_;rintro e w3 ⟨rfl,hw⟩;rw [hw];clear hw w3))
                  | (go_at_call 47;go_must (refine hcm.out.mono ?_;rintro e w3 ⟨rfl,hw⟩;rw [hw];clear hw w3))
                  | (go_at_call 48;go_must (refine (atoi_ok hds hat.out wr).mono ?_;rintro e w3 ⟨rfl,hb⟩;have hB3:=Lib.hid (below_step hB.out hb);have X3:=Lib.hid (blk_below hX.out hb);clear hb tx tf))
                  | (go_at_call 41;go_must (refine (Tryz.strconv_Itoa n (by omega) (by omega) w3 (tabs_below hT hB3.out).p).mono ?_;rw [hit];rintro e w4 ⟨rfl,kk,os,hw4⟩;have hb : Below w3.heap.size w3 w4:=(by rw [hw4];exact Lib.below_grow _ _ (Nat.le_refl _) _ _);clear hw4;have hB4:=Lib.hid (below_step hB3.out hb);have X4:=blk_below X3.out hb;have x4:=cells3 X4;have f4:=frozen3 X4;clear hb))
                  | ((with_reducible refine gate_store (t:=35) (p:=2) (v:=.tmp 46) rfl ?_);go_must (refine store_event (w1:=put3 w4 w.heap.size (.int .i64 3) (.int .i64 n) (.string ⟨#[]⟩)) (by rfl) (by rfl) (by rfl) ?hr ?_;(case hr=>first | (go_simp;done) | (go_simp;rfl));intro w5 hw5;have Fw5:=put3_facts X4 (.int .i64 3) (.int .i64 n) (.string ⟨#[]⟩);rw [← hw5] at Fw5;clear hw5)))
                refine bodyPost_ret (results_ct rfl _ _ w.heap.size 35 #[.int .i64 3,.int .i64 n,.string ⟨#[]⟩] (0,0) _ rfl Fw5.1 Tryz.underlying35 rfl (by kernel_rfl)) rfl ?_
                exact ⟨⟨⟨3,n,⟨#[]⟩⟩,rfl⟩,Fw5.2.2 _ _ hB4.out (Nat.le_refl _)⟩
              · have d3 : decide ((dg.size : Int) ≤ 9) = false:=decide_eq_false (by omega)
                have tok1 : True:=trivial
                go_wp2_with (first
                  | (go_at_call 47;have tq:=tok1;go_must (clear tq tok1;refine hct.out.mono ?_;rintro e w3 ⟨rfl,hw⟩;rw [hw];clear hw w3))
                  | (go_at_call 47;go_must (refine hcm.out.mono ?_;rintro e w3 ⟨rfl,hw⟩;rw [hw];clear hw w3))
                  | (go_at_call 48;go_must (refine (atoi_ok hds hat.out wr).mono ?_;rintro e w3 ⟨rfl,hb⟩;have hB3:=Lib.hid (below_step hB.out hb);have X3:=Lib.hid (blk_below hX.out hb);clear hb tx tf;have x3:=cells3 X3.out;have f3:=frozen3 X3.out))
                  | ((with_reducible refine gate_store (t:=35) (p:=2) (v:=.tmp 46) rfl ?_);go_must (refine store_event (w1:=put3 w3 w.heap.size (.int .i64 3) (.int .i64 n) (.string ⟨#[]⟩)) (by rfl) (by rfl) (by rfl) ?hr ?_;(case hr=>first | (go_simp;done) | (go_simp;rfl));intro w5 hw5;have Fw5:=put3_facts X3.out (.int .i64 3) (.int .i64 n) (.string ⟨#[]⟩);rw [← hw5] at Fw5;clear hw5)))
                refine bodyPost_ret (results_ct rfl _ _ w.heap.size 35 #[.int .i64 3,.int .i64 n,.string ⟨#[]⟩] (0,0) _ rfl Fw5.1 Tryz.underlying35 rfl (by kernel_rfl)) rfl ?_
                exact ⟨⟨⟨3,n,⟨#[]⟩⟩,rfl⟩,Fw5.2.2 _ _ hB3.out (Nat.le_refl _)⟩
            · have d1 : decide (n ≥ 0) = false:=decide_eq_false (by omega)
              have d2 : decide (0 ≤ n) = false:=decide_eq_false hn0
              have tok1 : True:=trivial
              go_wp2_with (first
                | (go_at_call 47;have tq:=tok1;go_must (clear tq tok1;refine hct.out.mono ?_;rintro e w3 ⟨rfl,hw⟩;rw [hw];clear hw w3))
                | (go_at_call 47;go_must (refine hcm.out.mono ?_;rintro e w3 ⟨rfl,hw⟩;rw [hw];clear hw w3))
                | (go_at_call 48;go_must (refine (atoi_ok hds hat.out wr).mono ?_;rintro e w3 ⟨rfl,hb⟩;have hB3:=Lib.hid (below_step hB.out hb);have X3:=Lib.hid (blk_below hX.out hb);clear hb tx tf;have x3:=cells3 X3.out;have f3:=frozen3 X3.out))
                | ((with_reducible refine gate_store (t:=35) (p:=2) (v:=.tmp 46) rfl ?_);go_must (refine store_event (w1:=put3 w3 w.heap.size (.int .i64 3) (.int .i64 n) (.string ⟨#[]⟩)) (by rfl) (by rfl) (by rfl) ?hr ?_;(case hr=>first | (go_simp;done) | (go_simp;rfl));intro w5 hw5;have Fw5:=put3_facts X3.out (.int .i64 3) (.int .i64 n) (.string ⟨#[]⟩);rw [← hw5] at Fw5;clear hw5)))
              refine bodyPost_ret (results_ct rfl _ _ w.heap.size 35 #[.int .i64 3,.int .i64 n,.string ⟨#[]⟩] (0,0) _ rfl Fw5.1 Tryz.underlying35 rfl (by kernel_rfl)) rfl ?_
              exact ⟨⟨⟨3,n,⟨#[]⟩⟩,rfl⟩,Fw5.2.2 _ _ hB3.out (Nat.le_refl _)⟩
          · have hat2 : ∀ v,Lib.atoiAll dg.data.toList ≠ .ok v:=fun v e=>hat ⟨v,e⟩
            clear hat
            have hat:=Lib.hid hat2
            clear hat2
            have tok1 : True:=trivial
            go_wp2_with (first
              | (go_at_call 47;have tq:=tok1;go_must (clear tq tok1;refine hct.out.mono ?_;rintro e w3 ⟨rfl,hw⟩;rw [hw];clear hw w3))
              | (go_at_call 47;go_must (refine hcm.out.mono ?_;rintro e w3 ⟨rfl,hw⟩;rw [hw];clear hw w3))
              | (go_at_call 48;go_must (refine (atoi_no hds hat.out wr (errt_below hE hB.out)).mono ?_;rintro e w3 ⟨⟨n,te,pe,rfl⟩,hb⟩;have hB3:=Lib.hid (below_step hB.out hb);have X3:=Lib.hid (blk_below hX.out hb);clear hb tx tf;have x3:=cells3 X3.out;have f3:=frozen3 X3.out))
              | ((with_reducible refine gate_store (t:=35) (p:=2) (v:=.tmp 46) rfl ?_);go_must (refine store_event (w1:=put3 w3 w.heap.size (.int .i64 3) (.int .i64 n) (.string ⟨#[]⟩)) (by rfl) (by rfl) (by rfl) ?hr ?_;(case hr=>first | (go_simp;done) | (go_simp;rfl));intro w5 hw5;have Fw5:=put3_facts X3.out (.int .i64 3) (.int .i64 n) (.string ⟨#[]⟩);rw [← hw5] at Fw5;clear hw5)))
            refine bodyPost_ret (results_ct rfl _ _ w.heap.size 35 #[.int .i64 3,.int .i64 n,.string ⟨#[]⟩] (0,0) _ rfl Fw5.1 Tryz.underlying35 rfl (by kernel_rfl)) rfl ?_
            exact ⟨⟨⟨3,n,⟨#[]⟩⟩,rfl⟩,Fw5.2.2 _ _ hB3.out (Nat.le_refl _)⟩
end Go.Proofs.YtjopbfidjapmbaaGreatDoor.Q
end
section
namespace Go.Proofs.YtjopbfidjapmbaaGreatDoor.Q
open Go.RowKit Go.Proofs.YtjopbfidjapmbaaGreatDoorW.PrintWords Go.Proofs.YtjopbfidjapmbaaGreatDoorW.PrintLast Go.Proofs.YtjopbfidjapmbaaGreatDoorW.PrintMore
open Go.ChangeShapes Go.WideShapes Go.ChangeAt Go.Joins
set_option linter.unusedVariables false
theorem wf_range {n : Int} (h : (Lit.int .i64 n).wf = true) : -9223372036854775808 ≤ n ∧ n ≤ 9223372036854775807:=by
  have h1 : (decide (IntKind.min .i64 ≤ n) && decide (n ≤ IntKind.max .i64)) = true:=h
  rw [Bool.and_eq_true] at h1
  exact ⟨of_decide_eq_true h1.1,of_decide_eq_true h1.2⟩
set_option maxRecDepth 100000 in
theorem open_acts_r {H : Type} {enc : TypeId × Value → H} {w : World} {b : Nat} {v : Value} {d : DataW H} {p : List MemPlace} (hv : Value.okWide Tryz.prog w .any b 22 v) (h : DataW.Trod enc Tryz.prog w 0 (fun _=>true) true 22 v d p) :
    ∃ (A9 : Option Addr) (c9 : Nat) (acts : List ActV),v = .slice A9 acts.length c9 ∧ ActsR A9 c9 acts w ∧ (Rows.uptoBulk d ≤ 1048576 → acts.length ≤ 1048576 ∧ ∀ x ∈ acts,x.2.2.size ≤ 1048576) ∧ ∀ x ∈ acts,-9223372036854775808 ≤ x.2.1 ∧ x.2.1 ≤ 9223372036854775807:=by
  obtain ⟨a0,len0,cap0,rfl⟩:=okWide_slice Tryz.underlying22 hv
  obtain ⟨fuel,hf⟩:=h
  have c36 : Tryz.prog.cellsOf 35 = 3:=by kernel_rfl
  have c9' : Tryz.prog.cellsOf 9 = 1:=by kernel_rfl
  have c3' : Tryz.prog.cellsOf 3 = 1:=by kernel_rfl
  rcases DataW.trod_slice Tryz.underlying22 hf with ⟨hcs,hx⟩ | ⟨a,len,cap,elems,rest,n,_,hcs,hx,hb,hl,hm,hlen,hel,hsp,hns⟩
  · simp only [Value.cells,List.cons.injEq,and_true,Value.slice.injEq] at hcs
    obtain ⟨rfl,rfl,rfl⟩:=hcs
    exact ⟨none,0,[],rfl,⟨Nat.le_refl _,by simp,fun j x hx=>by simp at hx⟩,fun _=>⟨by simp,fun x hx=>by simp at hx⟩,fun x hx=>by simp at hx⟩
  · simp only [Value.cells,List.cons.injEq,and_true,Value.slice.injEq] at hcs
    obtain ⟨rfl,rfl,rfl⟩:=hcs
    have each : ∀ i,i < len0 → ∃ x : ActV,(w.cell? (a.add (i * 3)) = some (.int .i64 x.1) ∧ w.cell? ⟨(a.add (i * 3)).block,(a.add (i * 3)).off + 1,none⟩ = some (.int .i64 x.2.1) ∧ w.cell? ⟨(a.add (i * 3)).block,(a.add (i * 3)).off + 2,none⟩ = some (.string x.2.2)) ∧ (-9223372036854775808 ≤ x.2.1 ∧ x.2.1 ≤ 9223372036854775807) ∧ ∃ y ∈ elems,x.2.2.size + 1 ≤ Rows.uptoBulk y.1:=by
      intro i hi
      have hy:=hel i hi
      obtain ⟨y,hye⟩ : ∃ y,elems[i]? = some y:=⟨elems[i]'(by omega),List.getElem?_eq_getElem (by omega)⟩
      rw [hye,c36,Option.bind_eq_some_iff] at hy
      obtain ⟨cs,hc,hd⟩:=hy
      obtain ⟨_,hcl,hcc⟩:=World.cells?_some hc
      obtain ⟨y0,y1,y2,m,hx2,_,g0,g1,g2⟩:=Go.Deep.trod_struct3 Tryz.underlying35 hd
      obtain ⟨e0,e1,e2,rfl⟩:=cells3_list hcl
      simp only [c9',c3',List.drop_succ_cons,List.drop_zero,List.take_succ_cons,List.take_zero] at g0 g1 g2
      obtain ⟨kind,q0,q1,_⟩:=DataW.trod_int Tryz.underlying3 g0
      obtain ⟨cell,q2,q3,hwf⟩:=DataW.trod_int Tryz.underlying3 g1
      obtain ⟨text,q4,q5,_⟩:=DataW.trod_string Tryz.underlying9 g2
      simp only [List.cons.injEq,and_true] at q0 q2 q4
      subst q0 q2 q4
      have h0 : w.cell? ((a.add (i * 3)).add 0) = some (.int .i64 kind):=hcc 0 (by omega)
      have h1 : w.cell? ((a.add (i * 3)).add 1) = some (.int .i64 cell):=hcc 1 (by omega)
      have h2 : w.cell? ((a.add (i * 3)).add 2) = some (.string text):=hcc 2 (by omega)
      refine ⟨(kind,cell,text),⟨h0,h1,h2⟩,wf_range hwf,y,List.mem_of_getElem? hye,?_⟩
      rw [hx2]
      show text.size + 1 ≤ Rows.uptoBulk (DataW.agg [y0.1,y1.1,y2.1])
      have hq:=bulk_agg (H:=H) (d:=y2.1) (l:=[y0.1,y1.1,y2.1]) (by simp)
      have e2 : Rows.uptoBulk y2.1 = text.size + 1:=by rw [q5];simp [Rows.uptoBulk]
      omega
    obtain ⟨f,hf2⟩:=Go.Deep.choose_lt (α:=ActV) each
    have hlen2 : ((List.range len0).map f).length = len0:=by simp
    have hget : ∀ (j : Nat) (x : ActV),((List.range len0).map f)[j]? = some x → j < len0 ∧ x = f j:=by
      intro j x hx
      simp only [List.getElem?_map,Option.map_eq_some_iff] at hx
      obtain ⟨k,hk,rfl⟩:=hx
      obtain ⟨h1,h2⟩:=List.getElem?_eq_some_iff.1 hk
      simp only [List.length_range,List.getElem_range] at h1 h2
      exact ⟨h1,by rw [h2]⟩
    refine ⟨some a,cap0,(List.range len0).map f,by rw [hlen2],⟨by omega,by unfold maxLen at hm;omega,fun j x hx=>?_⟩,fun hd=>⟨?_,fun x hx=>?_⟩,fun x hx=>?_⟩
    · obtain ⟨h1,rfl⟩:=hget j x hx
      exact ⟨a,rfl,(hf2 j h1).1⟩
    · rw [hlen2]
      have h1:=bulk_length (elems.map (·.1))
      rw [List.length_map] at h1
      have h2 : Rows.uptoBulkAll (elems.map (·.1)) + 1 ≤ Rows.uptoBulk d:=by
        have e : d = .slice (elems.map (·.1)) (rest.map (·.1)):=congrArg Prod.fst hx
        rw [e]
        simp only [Rows.uptoBulk]
        omega
      omega
    · obtain ⟨j,hj⟩:=List.getElem?_of_mem hx
      obtain ⟨h1,rfl⟩:=hget j x hj
      obtain ⟨y,hy,hs⟩:=(hf2 j h1).2.2
      have h3:=bulk_part (H:=H) (d:=y.1) (l:=elems.map (·.1)) (List.mem_map.2 ⟨y,hy,rfl⟩)
      have h2 : Rows.uptoBulkAll (elems.map (·.1)) + 1 ≤ Rows.uptoBulk d:=by
        have e : d = .slice (elems.map (·.1)) (rest.map (·.1)):=congrArg Prod.fst ‹(d,p) = _›
        rw [e]
        simp only [Rows.uptoBulk]
        omega
      omega
    · obtain ⟨j,hj⟩:=List.getElem?_of_mem hx
      obtain ⟨h1,rfl⟩:=hget j x hj
      exact (hf2 j h1).2.1
set_option maxRecDepth 100000 in
theorem open_logs {H : Type} {enc : TypeId × Value → H} {w : World} {b : Nat} {v : Value} {d : DataW H} {p : List MemPlace} (hv : Value.okWide Tryz.prog w .any b 22 v) (h : DataW.Trod enc Tryz.prog w 0 (fun _=>true) true 22 v d p) :
    ∃ (A9 : Option Addr) (c9 : Nat) (log : List Act3),v = .slice A9 log.length c9 ∧ Kd.C kAct w A9 log.length log ∧ log.length ≤ c9 ∧ (Rows.uptoBulk d ≤ 1048576 → log.length ≤ 1048576 ∧ ∀ x ∈ log,(-9223372036854775808 ≤ x.f1 ∧ x.f1 ≤ 9223372036854775807) ∧ x.f2.size ≤ 1048576):=by
  obtain ⟨A9,c9,acts,rfl,hA,ha,hr⟩:=open_acts_r hv h
  refine ⟨A9,c9,acts.map actOf,by rw [List.length_map],acts_C hA,by rw [List.length_map];exact hA.n,fun hb=>⟨by rw [List.length_map];exact (ha hb).1,fun x hx=>?_⟩⟩
  obtain ⟨y,hy,rfl⟩:=List.mem_map.1 hx
  exact ⟨hr y hy,(ha hb).2 y hy⟩
theorem err_star : "*" ++ "errors.errorString" = "*errors.errorString" := by decide
theorem err_row (u : TypeId) (h : Tryz.prog.typeName? 3 u = some "*errors.errorString") : u = 185 :=
  typeName_ptr_named (nm := "errors.errorString") (by rw [err_star];kernel_rfl) (by kernel_rfl) (by decide) u (by rw [err_star];exact h)
theorem errt_of_laid {w : World} (h : laidMetH Tryz.prog laid7 w) : ErrT w:=by
  have h' : laidMet Tryz.prog laid7 w:=h
  have h4:=laidMet.tail (laidMet.tail (laidMet.tail (laidMet.tail h')))
  have h5:=laidMet.tail h4
  have gr : Tryz.prog.globalNamed "strconv.ErrRange" = some 2:=by kernel_rfl
  have gs : Tryz.prog.globalNamed "strconv.ErrSyntax" = some 1:=by kernel_rfl
  obtain ⟨a0,s0,hv0,_,_,_⟩:=laid_sentinel h4 gr (by kernel_rfl) Tryz.underlying68 err_row Tryz.underlying185 Tryz.underlying187 rfl rfl Tryz.underlying9 (by kernel_rfl) (by kernel_rfl)
  obtain ⟨a1,s1,hv1,_,_,_⟩:=laid_sentinel h5 gs (by kernel_rfl) Tryz.underlying68 err_row Tryz.underlying185 Tryz.underlying187 rfl rfl Tryz.underlying9 (by kernel_rfl) (by kernel_rfl)
  exact ⟨⟨_,_,(World.var?_cell gs hv1 0).trans rfl⟩,⟨_,_,(World.var?_cell gr hv0 0).trans rfl⟩⟩
end Go.Proofs.YtjopbfidjapmbaaGreatDoor.Q
end
section
namespace Go.Proofs.YtjopbfidjapmbaaGreatDoor.Q
open Go.RowKit Go.Proofs.YtjopbfidjapmbaaGreatDoorW.PrintWords Go.Proofs.YtjopbfidjapmbaaGreatDoorW.PrintLast Go.Proofs.YtjopbfidjapmbaaGreatDoorW.PrintMore
set_option linter.unusedVariables false
set_option linter.unusedSimpArgs false
open Go.Proofs.YtjopbfidjapmbaaGreatDoorS
theorem joinL_snoc (l : List Act3) (a : Act3) : joinL (l ++ [a]) = joinL l ++ (lineL a ++ [10]):=by simp [joinL]
theorem cells_join (l : List Act3) (a : Act3) (s : ByteArray) (h : s.data.toList = lineL a) : Lib.byteCells (joinL l) ++ Lib.strCells (s ++ ⟨#[10]⟩) = Lib.byteCells (joinL (l ++ [a])):=by
  have e : (s ++ (⟨#[10]⟩ : ByteArray)).data.toList = lineL a ++ [10]:=by rw [ba_append,h]
  rw [joinL_snoc]
  simp only [Lib.byteCells,Lib.strCells,e,List.map_append]
theorem line_len {a : Act3} (hr : -9223372036854775808 ≤ a.f1 ∧ a.f1 ≤ 9223372036854775807) (hz : a.f2.size ≤ 1048576) : (lineL a).length ≤ 1048616:=by
  have h:=dec_small hr.1 hr.2
  have hn:=nm_len a.f0
  unfold lineL
  split
  · rw [List.length_append,Array.length_toList]
    show 5 + a.f2.size ≤ _
    omega
  · split
    · rw [List.length_append]
      show 5 + _ ≤ _
      omega
    · omega
theorem join_len : ∀ (l : List Act3),(∀ a ∈ l,(-9223372036854775808 ≤ a.f1 ∧ a.f1 ≤ 9223372036854775807) ∧ a.f2.size ≤ 1048576) → (joinL l).length ≤ l.length * 1048617
  | [],_=>Nat.zero_le _
  | a :: l,h=>by
    have h1:=line_len (h a List.mem_cons_self).1 (h a List.mem_cons_self).2
    have h2:=join_len l (fun b hb=>h b (List.mem_cons_of_mem _ hb))
    simp only [joinL,List.flatMap_cons,List.length_append,List.length_cons,List.length_nil] at h2 ⊢
    omega
theorem nl_sizeg {n : Nat} {s : ByteArray} {m : Nat} (h1 : n ≤ 1048576 * 1048617) (h2 : s.size ≤ m + 40) (h3 : m ≤ 1048576) : n + (s ++ (⟨#[10]⟩ : ByteArray)).size ≤ 140737488355328:=by
  have e : (s ++ (⟨#[10]⟩ : ByteArray)).size = s.size + 1:=by rw [ba_size];rfl
  rw [e]
  omega
set_option maxHeartbeats 8000000 in
set_option maxRecDepth 1000000 in
theorem gwrite_calls {A : Option Addr} {c : Nat} {log : List Act3} {w : World} (hT : Tabs w) (hr : Kd.C kAct w A log.length log) (hn : log.length ≤ 1048576) (hz : ∀ a ∈ log,(-9223372036854775808 ≤ a.f1 ∧ a.f1 ≤ 9223372036854775807) ∧ a.f2.size ≤ 1048576) :
    Calls Tryz.prog 6 #[.slice A log.length c] w fun e w'=>(∃ s r c,e = .returned (.tuple #[.string s,.int .i64 r,.int .i64 c]) ∧ WrIs log s r c) ∧ Below w.heap.size w w':=by
  have hbx:=Lib.IsBuilderF.of (Lib.fresh_isBuilder 64 5 w)
  have hB0:=below_alloc (Below.refl w.heap.size w) (.cells #[.pointer none,.slice none 0 0] 64)
  have hu:=Tryz.underlying35
  replace hbx:=Lib.hid hbx
  replace hB0:=Lib.hid hB0
  go_enter Tryz.func6,Tryz.ntmps6
  go_wp2
  go_loopw [12] (fun v12 wr=>∃ (i : Nat) (q : Int),v12 = .int .i64 q ∧ Hid (q = i ∧ i ≤ log.length) ∧ Hid (∀ a ∈ log.take i,goodA a = true) ∧ Hid (Lib.IsBuilderF 64 5 w.heap.size w.heap.size (Lib.byteCells (joinL (log.take i))) wr) ∧ Hid (Below w.heap.size w wr)) (fun v12 _=>log.length - (intOf v12).toNat)
  case atStart=>exact ⟨0,0,rfl,Lib.hid ⟨rfl,Nat.zero_le _⟩,Lib.hid (fun a h=>by cases h),hbx,hB0⟩
  case round =>
    clear hbx hB0
    obtain ⟨i,q,rfl,hq,hg,hbd,hB⟩:=hrel
    have hq0 : 0 ≤ q:=by have:=hq.out;omega
    by_cases hlt : i < log.length
    · have hq1 : q < (log.length : Int):=by have:=hq.out;omega
      have hq3 : q < 1048576:=by omega
      obtain ⟨ad,eA,z0,z1,z2⟩:=at_T35 (Kd.C_below hr hB.out) q hq0 hq1
      cases eA
      obtain ⟨a,ha⟩ : ∃ a,rd_T35 log q = a:=⟨_,rfl⟩
      have hai : acN log i = a:=by rw [← ha];unfold acN rd_T35;rw [hq.out.1,Int.toNat_natCast]
      have hmem : a ∈ log:=by rw [← hai];exact acN_mem hlt
      have htk : log.take (i + 1) = log.take i ++ [a]:=by rw [← hai];exact (take_snoc _ hlt).symm
      rw [ha] at z0 z1 z2
      clear ha
      replace hai:=Lib.hid hai
      have haz:=hz a hmem
      have hY:=Lib.hid (box1 wr (.cells #[.int .i64 a.f0,.int .i64 a.f1,.string a.f2] 35))
      have y0:=cells3 hY.out.1
      have hlen : (Lib.byteCells (joinL (log.take i))).length ≤ 1048576 * 1048617:=by
        have h:=join_len (log.take i) (fun b hb=>hz b (List.mem_of_mem_take hb))
        have h2 : (log.take i).length ≤ 1048576:=by rw [List.length_take];omega
        have h3 : (Lib.byteCells (joinL (log.take i))).length = (joinL (log.take i)).length:=by simp [Lib.byteCells]
        rw [h3]
        exact Nat.le_trans h (Nat.mul_le_mul_right _ h2)
      replace hlt:=Lib.hid hlt
      replace htk:=Lib.hid htk
      replace hmem:=Lib.hid hmem
      replace hlen:=Lib.hid hlen
      cases hga : goodA a with
      | false =>
        go_wp2_with (first
          | (go_at_call 21;go_must (refine (line_calls (tabs_below hT (below_step hB.out hY.out.2)) haz.1 haz.2).mono ?_;rintro e w3 ⟨s,rfl,hs,hsz,hb⟩;rw [hga];have hB3:=Lib.hid (below_step (below_step hB.out hY.out.2) hb);clear hb hs hsz)))
        go_ret3
        exact ⟨⟨_,_,_,rfl,.inr ⟨i,hlt.out,hg.out,by rw [hai.out];exact hga,rfl,hq.out.1,rfl⟩⟩,hB3.out⟩
      | true =>
        go_wp2_with (first
          | (go_at_call 21;go_must (refine (line_calls (tabs_below hT (below_step hB.out hY.out.2)) haz.1 haz.2).mono ?_;rintro e w3 ⟨s,rfl,hs,hsz,hb⟩;rw [hga];have hB3:=Lib.hid (below_step (below_step hB.out hY.out.2) hb);have hbd3:=Lib.hid (bld_below (bld_below hbd.out hY.out.2) hb);have hcj:=Lib.hid (cells_join (log.take i) a s (hs hga));have big : ¬ (9223372036854775807 < s.size + 1):=(by have:=haz.2;omega);replace hsz:=Lib.hid hsz;clear hb hs))
          | (go_at_call 22;go_must (have hq9:=bld_WriteString w.heap.size w.heap.size (Lib.byteCells (joinL (log.take i))) (s ++ ⟨#[10]⟩) w3 hbd3.out (nl_sizeg hlen.out hsz.out haz.2) hB3.out.size;refine hq9.mono ?_;clear hq9;rintro e w4 ⟨he4,hbd4,hb4,_⟩;rw [he4];clear he4;have hbd5:=Lib.hid (show Lib.IsBuilderF 64 5 w.heap.size w.heap.size (Lib.byteCells (joinL (log.take (i + 1)))) w4 by rw [htk.out,← hcj.out];exact .inr hbd4);have hB4:=Lib.hid (hB3.out.trans hb4);clear hbd4 hb4)))
        refine ⟨⟨i + 1,q + 1,rfl,Lib.hid ⟨by have:=hq.out;omega,hlt.out⟩,Lib.hid (fun b hb=>?_),hbd5,hB4⟩,?_⟩
        · rw [htk.out] at hb
          rcases List.mem_append.1 hb with hb | hb
          · exact hg.out b hb
          · rw [List.mem_singleton.1 hb];exact hga
        · simp only [intOf];have:=hq.out;have:=hlt.out;omega
    · have hge : ¬ q < (log.length : Int):=by have:=hq.out;omega
      have hi : log.take i = log:=List.take_of_length_le (by omega)
      rw [hi] at hg hbd
      go_wp2_with (first
        | (go_at_call 23;go_must (refine (Tryz.Builder_String_any_k _ _ _ _ hbd.out (bld_size hbd.out)).mono ?_;rintro e w3 ⟨rfl,_,hb,_⟩;have hB3:=Lib.hid (hB.out.trans hb);clear hb)))
      go_ret3
      exact ⟨⟨_,_,_,rfl,.inl ⟨hg.out,rfl,rfl,rfl⟩⟩,hB3.out⟩
def sizeOfV : Value → Nat
  | .string s=>s.size
  | _=>0
theorem join_ge : ∀ l : List Act3,l.length ≤ (joinL l).length
  | []=>Nat.zero_le _
  | a :: l=>by
    have:=join_ge l
    rw [joinL_one,List.length_append,List.length_cons,List.length_cons]
    omega
theorem ten_or : ∀ l : List UInt8,(∃ s r,(∀ b ∈ s,b ≠ 10) ∧ l = s ++ 10 :: r) ∨ ∀ b ∈ l,b ≠ 10
  | []=>.inr fun b h=>by cases h
  | c :: l=>by
    by_cases h : c = 10
    · exact .inl ⟨[],l,(fun b h=>by cases h),by rw [h];rfl⟩
    · rcases ten_or l with ⟨s,r,h1,h2⟩ | h1
      · refine .inl ⟨c :: s,r,(fun b hb=>?_),by rw [h2];rfl⟩
        rcases List.mem_cons.1 hb with rfl | hb
        · exact h
        · exact h1 b hb
      · refine .inr fun b hb=>?_
        rcases List.mem_cons.1 hb with rfl | hb
        · exact h
        · exact h1 b hb
theorem cut_not {l : List UInt8} (h : ∀ b ∈ l,b ≠ 10) : Lib.cut l [10] = (l,[],false):=by
  unfold Lib.cut
  rw [index_not l h]
  rfl
set_option maxHeartbeats 8000000 in
set_option maxRecDepth 1000000 in
theorem gread_calls {text : ByteArray} {w : World} (hT : Tabs w) (hE : ErrT w) :
    Calls Tryz.prog 9 #[.string text] w fun e w'=>∃ u log r c,e = .returned (.tuple #[u,.int .i64 r,.int .i64 c]) ∧ RdIs text log r c ∧ log.length ≤ 65536 ∧ Kd.R kAct 35 w' w.heap.size (fun _=>True) u log ∧ Below w.heap.size w w':=by
  have hu:=Tryz.underlying35
  by_cases hs : text.size ≤ 65536
  rotate_left
  · have k1 : decide ((text.size : Int) > 65536) = true:=decide_eq_true (by omega)
    have k2 : decide (65536 < (text.size : Int)) = true:=decide_eq_true (by omega)
    go_enter Tryz.func9,Tryz.ntmps9
    go_wp2
    go_step3
    go_wp2
    rw [Exit.noGoto_ret]
    go_wp2
    go_ret3
    exact ⟨_,[],0,1,rfl,.inl ⟨by omega,rfl,rfl,rfl⟩,Nat.zero_le _,Kd.R_nil _ _ _ _ _,Below.refl _ _⟩
  have k1 : decide ((text.size : Int) > 65536) = false:=decide_eq_false (by omega)
  have k2 : decide (65536 < (text.size : Int)) = false:=decide_eq_false (by omega)
  go_enter Tryz.func9,Tryz.ntmps9
  go_wp2
  go_step3
  go_wp2
  go_step3
  go_wp2
  go_loopw [5,6] (fun v5 v6 wr=>∃ (l : List Act3) (rest : ByteArray) (vL : Value),vL = v5 ∧ v6 = .string rest ∧ Hid (text.data.toList = joinL l ++ rest.data.toList ∧ rest.size ≤ 65536 ∧ ∀ a ∈ l,GoodB a) ∧ Hid (Kd.R kAct 35 wr w.heap.size (fun _=>True) vL l) ∧ Hid (Below w.heap.size w wr)) (fun _ v6 _=>sizeOfV v6)
  case atStart=>exact ⟨[],text,_,rfl,rfl,Lib.hid ⟨rfl,hs,(fun a h=>by cases h)⟩,Lib.hid (Kd.R_nil _ _ _ _ _),Lib.hid (Below.refl _ _)⟩
  case round =>
    obtain ⟨l,rest,vL,rfl,rfl,hr,hL,hB⟩:=hrel
    have hll : l.length ≤ 65536:=by
      have h1:=congrArg List.length hr.out.1
      have h2:=join_ge l
      have h3 : text.size = text.data.toList.length:=ba_len rfl
      rw [List.length_append] at h1
      omega
    replace hll:=Lib.hid hll
    cases hne : rest.toList.isEmpty with
    | true =>
      have he : rest.data.toList = []:=by rw [← ByteArray.toList_eq];exact List.isEmpty_iff.1 hne
      have hR:=Lib.hid (show RdIs text l 0 0 from .inr ⟨hs,.inl ⟨⟨hr.out.2.2,by rw [hr.out.1,he],stuck_nil⟩,rfl,rfl⟩⟩)
      clear he
      go_wp2
      rw [Exit.noGoto_ret]
      go_wp2
      go_ret3
      exact ⟨_,l,0,0,rfl,hR.out,hll.out,hL.out,hB.out⟩
    | false =>
      obtain ⟨m,hm⟩:=(tabs_below hT hB.out).m
      have hct:=Tryz.strings_Cut rest ⟨#[10]⟩ m wr (by have:=hr.out.2.1;omega) hm
      have hR : ∀ s : List UInt8,s ≠ [] → Stuck s → rest.data.toList = s → RdIs text [] (l.length : Int) 221:=fun s h1 h2 h3=>.inr ⟨hs,.inr ⟨l,s,h1,⟨hr.out.2.2,by rw [hr.out.1,h3],h2⟩,rfl,rfl,rfl⟩⟩
      replace hR:=Lib.hid hR
      have hrne : rest.data.toList ≠ []:=fun e=>by rw [ByteArray.toList_eq,e] at hne;cases hne
      replace hrne:=Lib.hid hrne
      rcases ten_or rest.data.toList with ⟨s,r,hno,hrl⟩ | hno
      · have hcut : Lib.cut rest.data.toList (⟨#[10]⟩ : ByteArray).data.toList = (s,r,true):=by rw [hrl];exact cut_ten hno
        rw [hcut] at hct
        obtain ⟨s1,hs1⟩ : ∃ x : ByteArray,(⟨s.toArray⟩ : ByteArray) = x:=⟨_,rfl⟩
        obtain ⟨s2,hs2⟩ : ∃ x : ByteArray,(⟨r.toArray⟩ : ByteArray) = x:=⟨_,rfl⟩
        dsimp only at hct
        rw [hs1,hs2] at hct
        have hs1l : s1.data.toList = s:=by rw [← hs1]
        have hs2l : s2.data.toList = r:=by rw [← hs2]
        have hlen : rest.size = s1.size + s2.size + 1:=by rw [ba_len hrl,ba_len hs1l,ba_len hs2l,List.length_append,List.length_cons];omega
        have hlen1 : s1.size ≤ 65536:=by have:=hr.out.2.1;omega
        replace hct:=Lib.hid hct
        replace hlen:=Lib.hid hlen
        replace hs1l:=Lib.hid hs1l
        replace hs2l:=Lib.hid hs2l
        replace hno:=Lib.hid hno
        replace hrl:=Lib.hid hrl
        clear hs1 hs2 hcut
        by_cases hgd : ∃ a,GoodB a ∧ lineL a = s
        · obtain ⟨a,hga,hal⟩:=hgd
          have hta:=Lib.hid (show text.data.toList = joinL (l ++ [a]) ++ s2.data.toList by rw [hr.out.1,hrl.out,joinL_snoc,hal,hs2l.out];simp)
          have hal2:=Lib.hid (show s1.data.toList = lineL a by rw [hs1l.out,hal])
          replace hga:=Lib.hid hga
          clear hal
          go_wp2_with (first
            | (go_at_call 25;go_must (refine hct.out.mono ?_;rintro e w3 ⟨rfl,n,hw3⟩;have hb : Below wr.heap.size wr w3:=(by rw [hw3];exact pw_below_drewN (Below.refl _ _) _);clear hw3;have hB3:=Lib.hid (below_step hB.out hb);have hL3:=Lib.hid (Kd.R_below hL.out hb);clear hb))
            | (go_at_call 26;go_must (refine (acts_calls (tabs_below hT hB3.out) hga.out.1 hal2.out hga.out.2).mono ?_;rintro e w4 ⟨rfl,hb⟩;have hX:=box1 w4 (.cells #[.int .i64 a.f0,.int .i64 a.f1,.string a.f2] 35);have x5:=cells3 hX.1;have hB5:=Lib.hid (below_step (below_step hB3.out hb) hX.2);have hL5:=Lib.hid (Kd.R_below (Kd.R_below hL3.out hb) hX.2);clear hb hX))
            | ((with_reducible refine gate_builtin (b:=.append) (xs:=#[.tmp 34,.tmp 36]) rfl ?_);go_must (at_builtin;refine Kd.R_append kAct (w0:=w) w.heap.size rfl (.tmp 34) (.tmp 36) 22 35 (.agg #[.int .i64 0,.int .i64 0,.string ⟨#[]⟩]) 32 rfl Tryz.underlying22 act_info rfl (by decide) (by decide) vL l a _ (fun _=>True) (fun _=>False) rfl ?hx (k35_mkM _ _ _ a) (fun _ hk=>hk.elim) (fun _ _=>trivial) hL5.out hB5.out hB5.out.size (by have:=hll.out;omega) ?_;(case hx=>first | rfl | (go_simp;done) | (go_simp;rfl));intro v8 w7 hL7 hB7 _ _;replace hL7:=Lib.hid hL7;replace hB7:=Lib.hid hB7)))
          refine ⟨⟨l ++ [a],s2,_,rfl,rfl,Lib.hid ⟨hta.out,by have:=hlen.out;have:=hr.out.2.1;omega,fun b hb=>?_⟩,hL7,hB7⟩,?_⟩
          · rcases List.mem_append.1 hb with hb | hb
            · exact hr.out.2.2 b hb
            · rw [List.mem_singleton.1 hb];exact hga.out
          · show s2.size < rest.size
            have:=hlen.out
            omega
        · have hbd : ∀ a,GoodB a → lineL a ≠ s1.data.toList:=fun a h1 h2=>hgd ⟨a,h1,by rw [h2,hs1l.out]⟩
          have hR2:=Lib.hid (hR.out _ hrne.out (by rw [hrl.out];exact stuck_line hno.out (fun a h1 h2=>hgd ⟨a,h1,h2⟩)) rfl)
          have hn1 : ∀ b ∈ s1.data.toList,b ≠ 10:=by rw [hs1l.out];exact hno.out
          replace hbd:=Lib.hid hbd
          replace hn1:=Lib.hid hn1
          clear hgd
          obtain ⟨AL,cL,rfl⟩:=Kd.R_slice hL.out
          go_wp2_with (first
            | (go_at_call 25;go_must (refine hct.out.mono ?_;rintro e w3 ⟨rfl,n,hw3⟩;have hb : Below wr.heap.size wr w3:=(by rw [hw3];exact pw_below_drewN (Below.refl _ _) _);clear hw3;have hB3:=Lib.hid (below_step hB.out hb);have hL3:=Lib.hid (Kd.R_below hL.out hb);clear hb))
            | (go_at_call 26;go_must (refine (actn_calls (tabs_below hT hB3.out) (errt_below hE hB3.out) hlen1 hn1.out hbd.out).mono ?_;rintro e w4 ⟨⟨a,rfl⟩,hb⟩;have hX:=box1 w4 (.cells #[.int .i64 a.f0,.int .i64 a.f1,.string a.f2] 35);have x5:=cells3 hX.1;have hB5:=Lib.hid (below_step (below_step hB3.out hb) hX.2);have hL5:=Lib.hid (Kd.R_below (Kd.R_below hL3.out hb) hX.2);clear hb hX)))
          rw [Exit.noGoto_ret]
          go_wp2
          go_ret3
          exact ⟨_,[],_,221,rfl,hR2.out,Nat.zero_le _,Kd.R_nil _ _ _ _ _,hB5.out⟩
      · have hcut : Lib.cut rest.data.toList (⟨#[10]⟩ : ByteArray).data.toList = (rest.data.toList,[],false):=cut_not hno
        rw [hcut] at hct
        dsimp only at hct
        rw [ba_eta] at hct
        have hR2:=Lib.hid (hR.out _ hrne.out (stuck_open hno) rfl)
        have hlen1 : rest.size ≤ 65536:=hr.out.2.1
        replace hct:=Lib.hid hct
        replace hno:=Lib.hid hno
        clear hcut
        obtain ⟨AL,cL,rfl⟩:=Kd.R_slice hL.out
        by_cases hgd : ∃ a,GoodB a ∧ lineL a = rest.data.toList
        · obtain ⟨a,hga,hal⟩:=hgd
          have hal2:=Lib.hid hal.symm
          replace hga:=Lib.hid hga
          clear hal
          go_wp2_with (first
            | (go_at_call 25;go_must (refine hct.out.mono ?_;rintro e w3 ⟨rfl,n,hw3⟩;have hb : Below wr.heap.size wr w3:=(by rw [hw3];exact pw_below_drewN (Below.refl _ _) _);clear hw3;have hB3:=Lib.hid (below_step hB.out hb);have hL3:=Lib.hid (Kd.R_below hL.out hb);clear hb))
            | (go_at_call 26;go_must (refine (acts_calls (tabs_below hT hB3.out) hga.out.1 hal2.out hga.out.2).mono ?_;rintro e w4 ⟨rfl,hb⟩;have hX:=box1 w4 (.cells #[.int .i64 a.f0,.int .i64 a.f1,.string a.f2] 35);have x5:=cells3 hX.1;have hB5:=Lib.hid (below_step (below_step hB3.out hb) hX.2);have hL5:=Lib.hid (Kd.R_below (Kd.R_below hL3.out hb) hX.2);clear hb hX)))
          rw [Exit.noGoto_ret]
          go_wp2
          go_ret3
          exact ⟨_,[],_,221,rfl,hR2.out,Nat.zero_le _,Kd.R_nil _ _ _ _ _,hB5.out⟩
        · have hbd : ∀ a,GoodB a → lineL a ≠ rest.data.toList:=fun a h1 h2=>hgd ⟨a,h1,h2⟩
          replace hbd:=Lib.hid hbd
          clear hgd
          go_wp2_with (first
            | (go_at_call 25;go_must (refine hct.out.mono ?_;rintro e w3 ⟨rfl,n,hw3⟩;have hb : Below wr.heap.size wr w3:=(by rw [hw3];exact pw_below_drewN (Below.refl _ _) _);clear hw3;have hB3:=Lib.hid (below_step hB.out hb);have hL3:=Lib.hid (Kd.R_below hL.out hb);clear hb))
            | (go_at_call 26;go_must (refine (actn_calls (tabs_below hT hB3.out) (errt_below hE hB3.out) hlen1 hno.out hbd.out).mono ?_;rintro e w4 ⟨⟨a,rfl⟩,hb⟩;have hX:=box1 w4 (.cells #[.int .i64 a.f0,.int .i64 a.f1,.string a.f2] 35);have x5:=cells3 hX.1;have hB5:=Lib.hid (below_step (below_step hB3.out hb) hX.2);have hL5:=Lib.hid (Kd.R_below (Kd.R_below hL3.out hb) hX.2);clear hb hX)))
          rw [Exit.noGoto_ret]
          go_wp2
          go_ret3
          exact ⟨_,[],_,221,rfl,hR2.out,Nat.zero_le _,Kd.R_nil _ _ _ _ _,hB5.out⟩
end Go.Proofs.YtjopbfidjapmbaaGreatDoor.Q
end
