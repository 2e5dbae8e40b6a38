/- FnVersionOrder: the law's row and its card: its walk, the law over lists, and what the arguments read as, joined. Whatever the arguments: the call returns true, and the arguments read as before. Condition: the listed tables hold what the program's text lays (the card ties that). -/
import Derived.Test.YtgknoemegejlkaaDoorMVersionOrder2
import Derived.Test.YtgknoemegejlkaaDoorMVersionOrder3
import Derived.Test.YtgknoemegejlkaaDoorMVersionOrder4
import Derived.Test.YtgknoemegejlkaaDoorCards
import Derived.Test.YtgknoemegejlkaaDoorTie
import Derived.WalkKit
import Derived.ProofKit
import Derived.OpenShut
import Derived.ShutString
import Derived.ChangeOld
import Derived.Below
import Derived.Carry
import Derived.Deep.DeepHandedRow
import Derived.Shelf.Vars
import Derived.LaidLaws

section
set_option linter.unusedVariables false
set_option linter.unusedSimpArgs false
namespace Go.Proofs.YtgknoemegejlkaaDoor.P
open Go.RowKit Go.Proofs.YtgknoemegejlkaaDoorW.PrintWords
theorem wrap64_id {n : Int} (h1 : -9223372036854775808 ≤ n) (h2 : n ≤ 9223372036854775807) : wrap64 n = n := by
  unfold wrap64; omega
def bs (s : ByteArray) : List UInt8 := s.data.toList
theorem bs_length (s : ByteArray) : (bs s).length = s.size := data_length s
theorem toList_bs (s : ByteArray) : s.toList = bs s := Lib.toList_data s
theorem bs_inj {a b : ByteArray} (h : bs a = bs b) : a = b := by
  cases a; cases b
  simp only [bs] at h
  congr 1
  exact Array.ext' h
theorem bt_nat (s : ByteArray) (i : Nat) (h : i < s.size) : bt s (i : Int) = (((bs s)[i]'(by rw [bs_length]; exact h)).toNat : Int) := by
  unfold bt
  rw [dif_pos (by simpa using h)]
  simp [bs, ByteArray.getElem_eq_getElem_data]
theorem bs_extract (s : ByteArray) (a b : Nat) : bs (s.extract a b) = ((bs s).drop a).take (b - a) := Lib.extract_data s a b
end Go.Proofs.YtgknoemegejlkaaDoor.P
end

section
set_option linter.unusedVariables false
set_option linter.unusedSimpArgs false
namespace Go.Proofs.YtgknoemegejlkaaDoor.P
open Go.RowKit Go.Proofs.YtgknoemegejlkaaDoorW.PrintWords Go.Proofs.YtgknoemegejlkaaDoorM
theorem cmpB_range : ∀ a b : List UInt8, Lib.compareBytes a b = -1 ∨ Lib.compareBytes a b = 0 ∨ Lib.compareBytes a b = 1
  | [], [] => by simp [Lib.compareBytes]
  | [], _ :: _ => by simp [Lib.compareBytes]
  | _ :: _, [] => by simp [Lib.compareBytes]
  | a :: x, b :: y => by
    rw [Lib.compareBytes]
    have := cmpB_range x y
    split
    · simp
    · split
      · simp
      · exact this
theorem cmpB_anti : ∀ a b : List UInt8, Lib.compareBytes b a = - Lib.compareBytes a b
  | [], [] => by simp [Lib.compareBytes]
  | [], _ :: _ => by simp [Lib.compareBytes]
  | _ :: _, [] => by simp [Lib.compareBytes]
  | a :: x, b :: y => by
    have ih := cmpB_anti x y
    rw [Lib.compareBytes, Lib.compareBytes]
    by_cases h1 : a < b
    · have h2 : ¬ b < a := fun h => by have := UInt8.lt_iff_toNat_lt.mp h; have := UInt8.lt_iff_toNat_lt.mp h1; omega
      rw [if_neg h2, if_pos h1, if_pos h1]; rfl
    · by_cases h2 : b < a
      · rw [if_pos h2, if_neg h1, if_pos h2]
      · rw [if_neg h2, if_neg h1, if_neg h1, if_neg h2]; exact ih
theorem cmpB_tri : ∀ a b c : List UInt8, (Lib.compareBytes a b = 0 → Lib.compareBytes a c = Lib.compareBytes b c) ∧ (Lib.compareBytes b c = 0 → Lib.compareBytes a c = Lib.compareBytes a b) ∧ (Lib.compareBytes a b < 0 → Lib.compareBytes b c < 0 → Lib.compareBytes a c < 0)
  | [], [], c => ⟨fun _ => rfl, fun h => by rw [h]; rfl, fun h => by simp [Lib.compareBytes] at h⟩
  | [], b :: y, [] => ⟨fun h => by simp [Lib.compareBytes] at h, fun h => by simp [Lib.compareBytes] at h, fun _ h => by simp [Lib.compareBytes] at h⟩
  | [], b :: y, c :: z => ⟨fun h => by simp [Lib.compareBytes] at h, fun _ => rfl, fun _ _ => by simp [Lib.compareBytes]⟩
  | a :: x, [], c => ⟨fun h => by simp [Lib.compareBytes] at h, fun h => by
      cases c with
      | nil => rfl
      | cons _ _ => simp [Lib.compareBytes] at h, fun h => by simp [Lib.compareBytes] at h⟩
  | a :: x, b :: y, [] => ⟨fun _ => rfl, fun h => by simp [Lib.compareBytes] at h, fun _ h => by simp [Lib.compareBytes] at h⟩
  | a :: x, b :: y, c :: z => by
    obtain ⟨i1, i2, i3⟩ := cmpB_tri x y z
    rw [Lib.compareBytes, Lib.compareBytes, Lib.compareBytes]
    have lt : ∀ p q : UInt8, p < q ↔ p.toNat < q.toNat := fun p q => UInt8.lt_iff_toNat_lt
    simp only [lt]
    rcases Nat.lt_trichotomy a.toNat b.toNat with h1 | h1 | h1 <;> rcases Nat.lt_trichotomy b.toNat c.toNat with h2 | h2 | h2 <;> rcases Nat.lt_trichotomy a.toNat c.toNat with h3 | h3 | h3 <;>
      first
      | omega
      | (simp only [show a.toNat < b.toNat ↔ True from by simp [h1], if_true]; skip; done)
      | (repeat' (first | rw [if_pos (by omega)] | rw [if_neg (by omega)])
         first | exact ⟨i1, i2, i3⟩ | (refine ⟨fun h => ?_, fun h => ?_, fun h h' => ?_⟩ <;> first | rfl | omega | simp_all))
end Go.Proofs.YtgknoemegejlkaaDoor.P
end

section
set_option linter.unusedVariables false
set_option linter.unusedSimpArgs false
namespace Go.Proofs.YtgknoemegejlkaaDoor.P
open Go.RowKit Go.Proofs.YtgknoemegejlkaaDoorW.PrintWords
def isL (c : Int) : Bool := decide ((97 ≤ c ∧ c ≤ 122) ∨ (65 ≤ c ∧ c ≤ 90))
def isD (c : Int) : Bool := decide (48 ≤ c ∧ c ≤ 57)
theorem impl_letter_eq (c : Int) : impl_letter.f c = some (isL c) := by
  unfold impl_letter.f isL
  repeat' split
  all_goals (congr 1; first | (rw [decide_eq_decide]; omega) | (symm; rw [decide_eq_true_iff]; omega) | (symm; rw [decide_eq_false_iff_not]; omega))
theorem impl_digit_eq (c : Int) : impl_digit.f c = some (isD c) := by
  unfold impl_digit.f isD
  repeat' split
  all_goals (congr 1; first | (rw [decide_eq_decide]; omega) | (symm; rw [decide_eq_true_iff]; omega) | (symm; rw [decide_eq_false_iff_not]; omega))
theorem spec_l1Letter_eq (c : Int) : spec_l1Letter.f c = some (isL c) := by
  unfold spec_l1Letter.f isL
  repeat' split
  all_goals (congr 1; first | (rw [decide_eq_decide]; omega) | (symm; rw [decide_eq_true_iff]; omega) | (symm; rw [decide_eq_false_iff_not]; omega))
theorem spec_l1Digit_eq (c : Int) : spec_l1Digit.f c = some (isD c) := by
  unfold spec_l1Digit.f isD
  repeat' split
  all_goals (congr 1; first | (rw [decide_eq_decide]; omega) | (symm; rw [decide_eq_true_iff]; omega) | (symm; rw [decide_eq_false_iff_not]; omega))
end Go.Proofs.YtgknoemegejlkaaDoor.P
end

section
set_option linter.unusedVariables false
set_option linter.unusedSimpArgs false
namespace Go.Proofs.YtgknoemegejlkaaDoor.P
open Go.RowKit Go.Proofs.YtgknoemegejlkaaDoorW.PrintWords Go.Proofs.YtgknoemegejlkaaDoorW.PrintLast Go.Proofs.YtgknoemegejlkaaDoorM
def isDb (c : UInt8) : Bool := isD (c.toNat : Int)
def isLb (c : UInt8) : Bool := isL (c.toNat : Int)
def numOf : List UInt8 → Nat → Nat
  | [], acc => acc
  | c :: r, acc => numOf r (acc * 10 + (c.toNat - 48))
def tok : Nat → List UInt8 → Option (List S66)
  | _, [] => some []
  | 0, _ :: _ => none
  | f + 1, c :: r =>
    if isDb c then (if ((c :: r).takeWhile isDb).length > 15 then none else (tok f ((c :: r).dropWhile isDb)).map (fun l => ⟨(numOf ((c :: r).takeWhile isDb) 0 : Nat), ⟨#[]⟩⟩ :: l))
    else if isLb c then (tok f ((c :: r).dropWhile isLb)).map (fun l => ⟨0, ⟨((c :: r).takeWhile isLb).toArray⟩⟩ :: l)
    else if c = 46 ∨ c = 45 then tok f r else none
theorem digit_rng {c : UInt8} (h : isDb c = true) : 48 ≤ c.toNat ∧ c.toNat ≤ 57 := by
  unfold isDb isD at h
  have := of_decide_eq_true h
  omega
theorem parseUintM_ok : ∀ (d : List UInt8) (acc n : Nat), (∀ c ∈ d, isDb c = true) → acc < 10 ^ n → n + d.length ≤ 15 → Lib.parseUintM 18446744073709551615 acc d = .ok (numOf d acc) ∧ numOf d acc < 1000000000000000
  | [], acc, n, _, h, hn => ⟨rfl, Nat.lt_of_lt_of_le h (Nat.le_trans (Nat.pow_le_pow_right (by decide) (show n ≤ 15 by simpa using hn)) (by decide))⟩
  | c :: d, acc, n, hd, h, hn => by
    have hc := digit_rng (hd c List.mem_cons_self)
    have h14 : acc < 100000000000000 := Nat.lt_of_lt_of_le h (Nat.le_trans (Nat.pow_le_pow_right (by decide) (show n ≤ 14 by simp at hn; omega)) (by decide))
    have ih := parseUintM_ok d (acc * 10 + (c.toNat - 48)) (n + 1) (fun x hx => hd x (List.mem_cons_of_mem _ hx)) (by rw [Nat.pow_succ]; omega) (by simp at hn ⊢; omega)
    rw [Lib.parseUintM, if_pos hc, if_neg (by omega), if_neg (by omega)]
    exact ih
theorem parseInt_ok (s : ByteArray) (h1 : 1 ≤ s.size) (h2 : s.size ≤ 15) (hd : ∀ c ∈ bs s, isDb c = true) : strconv_ParseInt.f s 10 64 = some (((numOf (bs s) 0 : Nat) : Int), none) := by
  have hl := bs_length s
  unfold strconv_ParseInt.f
  rw [if_pos ⟨rfl, rfl, by omega⟩]
  change (match Lib.parseIntB 64 (bs s) with | .ok v => some (v, none) | _ => none) = _
  generalize bs s = l at hd hl ⊢
  cases l with
  | nil => simp at hl; omega
  | cons c r =>
    obtain ⟨h3, h4⟩ := parseUintM_ok (c :: r) 0 0 hd (by decide) (by omega)
    have hc := digit_rng (hd c List.mem_cons_self)
    have e : Lib.parseIntB 64 (c :: r) = .ok ((numOf (c :: r) 0 : Nat) : Int) := by
      unfold Lib.parseIntB
      simp only []
      rw [if_neg (by omega)]
      unfold Lib.parseUintB
      rw [if_neg (by simp)]
      rw [show (2 ^ 64 - 1 : Nat) = 18446744073709551615 from by decide, h3]
      simp only []
      rw [if_neg (by rintro ⟨_, h⟩; exact absurd (Nat.le_trans (show (2 ^ 63 : Nat) ≤ 2 ^ (64 - 1) from Nat.le_refl _) h) (by omega)), if_neg (by rintro ⟨h, _⟩; omega), if_neg (by omega)]
    rw [e]
theorem tw_step (p : UInt8 → Bool) (l : List UInt8) (j : Nat) (h : j < l.length) : (l.drop j).takeWhile p = if p l[j] = true then l[j] :: (l.drop (j + 1)).takeWhile p else [] := by
  rw [List.drop_eq_getElem_cons h, List.takeWhile_cons]
theorem dw_eq (p : UInt8 → Bool) (l : List UInt8) (j : Nat) : (l.drop j).dropWhile p = l.drop (j + ((l.drop j).takeWhile p).length) := by
  rw [← List.drop_drop]
  conv => rhs; arg 2; rw [← List.takeWhile_append_dropWhile (p := p) (l := l.drop j)]
  rw [List.drop_left]
theorem tw_take (p : UInt8 → Bool) (l : List UInt8) : l.take (l.takeWhile p).length = l.takeWhile p := by
  conv => lhs; arg 2; rw [← List.takeWhile_append_dropWhile (p := p) (l := l)]
  rw [List.take_left]
theorem mem_tw (p : UInt8 → Bool) : ∀ (l : List UInt8) (c : UInt8), c ∈ l.takeWhile p → p c = true
  | [], c, h => by cases h
  | a :: l, c, h => by
    rw [List.takeWhile_cons] at h
    split at h
    · rcases List.mem_cons.1 h with rfl | h
      · assumption
      · exact mem_tw p l c h
    · cases h
theorem tw_len (p : UInt8 → Bool) (l : List UInt8) : (l.takeWhile p).length ≤ l.length := (List.takeWhile_sublist p).length_le
theorem bt_isD (s : ByteArray) (j : Nat) (h : j < s.size) : impl_digit.f (bt s (j : Int)) = some (isDb ((bs s)[j]'(by rw [bs_length]; exact h))) := by
  rw [impl_digit_eq, bt_nat s j h]; rfl
theorem bt_isL (s : ByteArray) (j : Nat) (h : j < s.size) : impl_letter.f (bt s (j : Int)) = some (isLb ((bs s)[j]'(by rw [bs_length]; exact h))) := by
  rw [impl_letter_eq, bt_nat s j h]; rfl
theorem bt_isDs (s : ByteArray) (j : Nat) (h : j < s.size) : spec_l1Digit.f (bt s (j : Int)) = some (isDb ((bs s)[j]'(by rw [bs_length]; exact h))) := by
  rw [spec_l1Digit_eq, bt_nat s j h]; rfl
theorem bt_isLs (s : ByteArray) (j : Nat) (h : j < s.size) : spec_l1Letter.f (bt s (j : Int)) = some (isLb ((bs s)[j]'(by rw [bs_length]; exact h))) := by
  rw [spec_l1Letter_eq, bt_nat s j h]; rfl
theorem impl_parts_l1 (s : ByteArray) (hs : s.size ≤ 30) (acc : List S66) (ha : acc.length ≤ 30) (i : Nat) (v : Int) : ∀ (n j k : Nat) (e : Nat), j + n = s.size → i ≤ j → n + 1 ≤ k → e = j + (((bs s).drop j).takeWhile isDb).length →
    (e - i > 15 → impl_parts.l1 k s acc (i : Int) (j : Int) = some ([], false)) ∧
    (e - i ≤ 15 → strconv_ParseInt.f (s.extract i e) 10 64 = some (v, none) → ∀ r, (∀ k', k ≤ k' + n + 1 → impl_parts.l0 k' s (acc ++ [⟨v, ⟨#[]⟩⟩]) (e : Int) = some r) → impl_parts.l1 k s acc (i : Int) (j : Int) = some r) := by
  intro n
  induction n with
  | zero =>
    intro j k e hj hi hk he
    obtain ⟨k, rfl⟩ : ∃ k', k = k' + 1 := ⟨k - 1, by omega⟩
    rw [List.drop_eq_nil_of_le (by rw [bs_length]; omega)] at he
    simp at he
    subst he
    have hw : wrap64 ((e : Int) - (i : Int)) = (e : Int) - (i : Int) := wrap64_id (by omega) (by omega)
    rw [impl_parts.l1, if_neg (by omega), hw]
    refine ⟨fun h => by rw [if_pos (by omega)], fun h hp r hr => ?_⟩
    rw [if_neg (by omega), if_pos (by omega), if_pos (by omega), if_pos (by omega)]
    simp only [Int.toNat_natCast]
    rw [hp, Option.bind_some, if_pos (by omega)]
    exact hr k (by omega)
  | succ n ih =>
    intro j k e hj hi hk he
    obtain ⟨k, rfl⟩ : ∃ k', k = k' + 1 := ⟨k - 1, by omega⟩
    have hjl : j < (bs s).length := by rw [bs_length]; omega
    rw [tw_step isDb (bs s) j hjl] at he
    rw [impl_parts.l1, if_pos (by omega), if_pos (by omega), bt_isD s j (by omega), Option.bind_some]
    cases hd : isDb (bs s)[j] with
    | true =>
      rw [if_pos hd, List.length_cons] at he
      have hw : wrap64 ((j : Int) + 1) = ((j + 1 : Nat) : Int) := by rw [wrap64_id (by omega) (by omega)]; omega
      rw [if_pos rfl, hw]
      obtain ⟨h1, h2⟩ := ih (j + 1) k e (by omega) (by omega) (by omega) (by omega)
      exact ⟨h1, fun h hp r hr => h2 h hp r (fun k' hk' => hr k' (by omega))⟩
    | false =>
      rw [if_neg (by simp [hd])] at he
      simp at he
      subst he
      have hw : wrap64 ((e : Int) - (i : Int)) = (e : Int) - (i : Int) := wrap64_id (by omega) (by omega)
      rw [if_neg (by decide), hw]
      refine ⟨fun h => by rw [if_pos (by omega)], fun h hp r hr => ?_⟩
      rw [if_neg (by omega), if_pos (by omega), if_pos (by omega), if_pos (by omega)]
      simp only [Int.toNat_natCast]
      rw [hp, Option.bind_some, if_pos (by omega)]
      exact hr k (by omega)
theorem impl_parts_l2 (s : ByteArray) (hs : s.size ≤ 30) (acc : List S66) (ha : acc.length ≤ 30) (i : Nat) : ∀ (n j k : Nat) (e : Nat), j + n = s.size → i ≤ j → n + 1 ≤ k → e = j + (((bs s).drop j).takeWhile isLb).length →
    ∀ r, (∀ k', k ≤ k' + n + 1 → impl_parts.l0 k' s (acc ++ [⟨0, s.extract i e⟩]) (e : Int) = some r) → impl_parts.l2 k s acc (i : Int) (j : Int) = some r := by
  intro n
  induction n with
  | zero =>
    intro j k e hj hi hk he r hr
    obtain ⟨k, rfl⟩ : ∃ k', k = k' + 1 := ⟨k - 1, by omega⟩
    rw [List.drop_eq_nil_of_le (by rw [bs_length]; omega)] at he
    simp at he
    subst he
    rw [impl_parts.l2, if_neg (by omega), if_pos (by omega), if_pos (by omega), if_pos (by omega), if_pos (by omega)]
    exact hr k (by omega)
  | succ n ih =>
    intro j k e hj hi hk he r hr
    obtain ⟨k, rfl⟩ : ∃ k', k = k' + 1 := ⟨k - 1, by omega⟩
    have hjl : j < (bs s).length := by rw [bs_length]; omega
    rw [tw_step isLb (bs s) j hjl] at he
    rw [impl_parts.l2, if_pos (by omega), if_pos (by omega), bt_isL s j (by omega), Option.bind_some]
    cases hd : isLb (bs s)[j] with
    | true =>
      rw [if_pos hd, List.length_cons] at he
      have hw : wrap64 ((j : Int) + 1) = ((j + 1 : Nat) : Int) := by rw [wrap64_id (by omega) (by omega)]; omega
      rw [if_pos rfl, hw]
      exact ih (j + 1) k e (by omega) (by omega) (by omega) (by omega) r (fun k' hk' => hr k' (by omega))
    | false =>
      rw [if_neg (by simp [hd])] at he
      simp at he
      subst he
      rw [if_neg (by decide), if_pos (by omega), if_pos (by omega), if_pos (by omega), if_pos (by omega)]
      exact hr k (by omega)
def ansI (acc : List S66) : Option (List S66) → List S66 × Bool
  | some l => (acc ++ l, true)
  | none => ([], false)
theorem extract_tw (s : ByteArray) (p : UInt8 → Bool) (i : Nat) : bs (s.extract i (i + (((bs s).drop i).takeWhile p).length)) = ((bs s).drop i).takeWhile p := by
  rw [bs_extract, Nat.add_sub_cancel_left, tw_take]
theorem ba_eq (s : ByteArray) : s = ⟨(bs s).toArray⟩ := by
  apply bs_inj
  simp [bs]
theorem impl_parts_l0 (s : ByteArray) (hs : s.size ≤ 30) : ∀ (m i k : Nat) (acc : List S66), i ≤ s.size → s.size - i ≤ m → 64 * (m + 1) ≤ k → acc.length ≤ i →
    impl_parts.l0 k s acc (i : Int) = some (ansI acc (tok m ((bs s).drop i))) := by
  intro m
  induction m with
  | zero =>
    intro i k acc hi hm hk ha
    obtain ⟨k, rfl⟩ : ∃ k', k = k' + 1 := ⟨k - 1, by omega⟩
    rw [impl_parts.l0, if_neg (by omega), List.drop_eq_nil_of_le (by rw [bs_length]; omega), tok, ansI, List.append_nil]
  | succ m ih =>
    intro i k acc hi hm hk ha
    obtain ⟨k, rfl⟩ : ∃ k', k = k' + 1 := ⟨k - 1, by omega⟩
    by_cases hlt : i < s.size
    · have hil : i < (bs s).length := by rw [bs_length]; exact hlt
      have hd := List.drop_eq_getElem_cons hil
      have hT : tok (m + 1) ((bs s).drop i) = if isDb (bs s)[i] then (if (((bs s).drop i).takeWhile isDb).length > 15 then none else (tok m (((bs s).drop i).dropWhile isDb)).map (fun l => ⟨(numOf (((bs s).drop i).takeWhile isDb) 0 : Nat), ⟨#[]⟩⟩ :: l))
          else if isLb (bs s)[i] then (tok m (((bs s).drop i).dropWhile isLb)).map (fun l => ⟨0, ⟨(((bs s).drop i).takeWhile isLb).toArray⟩⟩ :: l)
          else if (bs s)[i] = 46 ∨ (bs s)[i] = 45 then tok m ((bs s).drop (i + 1)) else none := by rw [hd, tok]
      rw [impl_parts.l0, if_pos (by omega), if_pos (by omega), bt_isD s i hlt, Option.bind_some]
      have hone : ∀ p : UInt8 → Bool, p (bs s)[i] = true → 1 ≤ (((bs s).drop i).takeWhile p).length := fun p h => by rw [tw_step p (bs s) i hil, if_pos h]; simp
      have hle : ∀ p : UInt8 → Bool, (((bs s).drop i).takeWhile p).length ≤ s.size - i := fun p => by have := tw_len p ((bs s).drop i); rwa [List.length_drop, bs_length] at this
      cases hD : isDb (bs s)[i] with
      | true =>
        rw [hD, if_pos rfl] at hT
        have h1 := hone isDb hD
        have h2 := hle isDb
        obtain ⟨q1, q2⟩ := impl_parts_l1 s hs acc (by omega) i (numOf (((bs s).drop i).takeWhile isDb) 0 : Nat) (s.size - i) i k (i + (((bs s).drop i).takeWhile isDb).length) (by omega) (Nat.le_refl _) (by omega) rfl
        rw [if_pos rfl, hT]
        by_cases h15 : (((bs s).drop i).takeWhile isDb).length > 15
        · rw [if_pos h15, q1 (by omega)]; rfl
        · rw [if_neg h15]
          have hx := extract_tw s isDb i
          have hxs : (s.extract i (i + (((bs s).drop i).takeWhile isDb).length)).size = (((bs s).drop i).takeWhile isDb).length := by rw [← bs_length, hx]
          refine q2 (by omega) ?_ _ (fun k' hk' => ?_)
          · rw [parseInt_ok _ (by omega) (by omega) (fun c hc => by rw [hx] at hc; exact mem_tw isDb _ c hc), hx]
          · rw [ih _ k' _ (by omega) (by omega) (by omega) (by simp; omega), dw_eq]
            cases tok m ((bs s).drop (i + (((bs s).drop i).takeWhile isDb).length)) <;> simp [ansI]
      | false =>
        rw [hD, if_neg (by decide)] at hT
        rw [if_neg (by decide), bt_isL s i hlt, Option.bind_some]
        cases hL : isLb (bs s)[i] with
        | true =>
          rw [hL, if_pos rfl] at hT
          have h1 := hone isLb hL
          have h2 := hle isLb
          rw [if_pos rfl, hT]
          refine impl_parts_l2 s hs acc (by omega) i (s.size - i) i k (i + (((bs s).drop i).takeWhile isLb).length) (by omega) (Nat.le_refl _) (by omega) rfl _ (fun k' hk' => ?_)
          rw [ih _ k' _ (by omega) (by omega) (by omega) (by simp; omega), dw_eq]
          have hx := ba_eq (s.extract i (i + (((bs s).drop i).takeWhile isLb).length))
          rw [extract_tw s isLb i] at hx
          rw [hx]
          cases tok m ((bs s).drop (i + (((bs s).drop i).takeWhile isLb).length)) <;> simp [ansI]
        | false =>
          rw [hL, if_neg (by decide)] at hT
          have hw : wrap64 ((i : Int) + 1) = ((i + 1 : Nat) : Int) := by rw [wrap64_id (by omega) (by omega)]; omega
          have hb := bt_nat s i hlt
          have e46 : bt s (i : Int) = 46 ↔ (bs s)[i] = 46 := by
            rw [hb]
            constructor
            · intro h; exact UInt8.toNat_inj.mp (by show _ = 46; omega)
            · intro h; rw [h]; rfl
          have e45 : bt s (i : Int) = 45 ↔ (bs s)[i] = 45 := by
            rw [hb]
            constructor
            · intro h; exact UInt8.toNat_inj.mp (by show _ = 45; omega)
            · intro h; rw [h]; rfl
          rw [if_neg (by decide), hw, hT]
          by_cases h46 : (bs s)[i] = 46
          · rw [if_pos (e46.2 h46), if_pos (.inl h46), ih (i + 1) k acc (by omega) (by omega) (by omega) (by omega)]
          · rw [if_neg (fun h => h46 (e46.1 h))]
            by_cases h45 : (bs s)[i] = 45
            · rw [if_pos (e45.2 h45), if_pos (.inr h45), ih (i + 1) k acc (by omega) (by omega) (by omega) (by omega)]
            · rw [if_neg (fun h => h45 (e45.1 h)), if_neg (fun h => h.elim h46 h45)]
              rfl
    · rw [impl_parts.l0, if_neg (by omega), List.drop_eq_nil_of_le (by rw [bs_length]; omega), tok, ansI, List.append_nil]
def verOk (s : ByteArray) : Bool := decide (1 ≤ s.size) && (decide (s.size ≤ 30) && (isD (bt s 0) && (tok 30 (bs s)).isSome))
def toks (s : ByteArray) : List S66 := (tok 30 (bs s)).getD []
theorem impl_parts_eq (s : ByteArray) (k : Nat) (hk : 2000 ≤ k) : impl_parts.f k s = some (if verOk s = true then (toks s, true) else ([], false)) := by
  obtain ⟨k, rfl⟩ : ∃ k', k = k' + 1 := ⟨k - 1, by omega⟩
  unfold impl_parts.f verOk toks
  by_cases h1 : s.size < 1
  · rw [if_pos (by omega), impl_parts.j0, if_pos rfl, decide_eq_false (by omega)]; rfl
  · rw [if_neg (by omega)]
    by_cases h2 : s.size > 30
    · rw [if_pos (by omega), impl_parts.j0, if_pos rfl, decide_eq_false (p := s.size ≤ 30) (by omega)]
      simp
    · rw [if_neg (by omega), if_pos (by omega), impl_digit_eq, Option.bind_some, impl_parts.j0]
      cases hd : isD (bt s 0) with
      | false => simp
      | true =>
        have := impl_parts_l0 s (by omega) 30 0 k [] (by omega) (by omega) (by omega) (by simp)
        rw [show ((0 : Nat) : Int) = 0 from rfl, List.drop_zero] at this
        rw [if_neg (by decide), this]
        cases tok 30 (bs s) <;> simp [ansI, show 1 ≤ s.size by omega, show s.size ≤ 30 by omega]
theorem spec_l1_step (s : ByteArray) (hs : s.size ≤ 30) (acc : List S112) (ha : acc.length ≤ 30) (fr j k : Nat) (x : Int) (hj : j < s.size) (hi : fr ≤ j) :
    ∃ y, spec_l6Parts.l1 (k + 2) s acc (j : Int) (fr : Int) x = if isDb ((bs s)[j]'(by rw [bs_length]; exact hj)) = true then (if j + 1 - fr > 15 then some (acc, false) else spec_l6Parts.l1 k s acc ((j + 1 : Nat) : Int) (fr : Int) y) else spec_l6Parts.l0 k s (acc ++ [⟨⟨#[]⟩, x⟩]) (j : Int) := by
  refine ⟨wrap64 ((wrap64 (x * 10)) + (((bt s (j : Int)) - 48) % 256)), ?_⟩
  have hj1 : (j : Int) < (s.size : Int) := by omega
  have hj0 : (0 : Int) ≤ (j : Int) := by omega
  have hacc : acc.length < 5864062014805 := by omega
  have hw : wrap64 ((j : Int) + 1) = ((j + 1 : Nat) : Int) := by rw [wrap64_id (by omega) (by omega)]; omega
  have hw2 : wrap64 (((j + 1 : Nat) : Int) - (fr : Int)) = ((j + 1 : Nat) : Int) - (fr : Int) := wrap64_id (by omega) (by omega)
  rw [spec_l6Parts.l1, if_pos hj1, if_pos hj0, bt_isDs s j hj, Option.bind_some, spec_l6Parts.j3]
  simp only [if_pos hj0, if_pos hj1, if_pos hacc, hw, hw2]
  clear hw hw2
  by_cases h : j + 1 - fr > 15
  · rw [if_pos h, if_pos (show ((j + 1 : Nat) : Int) - (fr : Int) > 15 by omega)]
  · rw [if_neg h, if_neg (show ¬ ((j + 1 : Nat) : Int) - (fr : Int) > 15 by omega)]
theorem spec_parts_l1 (s : ByteArray) (hs : s.size ≤ 30) (acc : List S112) (ha : acc.length ≤ 30) (fr : Nat) : ∀ (n j k : Nat) (x : Int) (e : Nat), j + n = s.size → fr ≤ j → j - fr ≤ 15 → 2 * n + 3 ≤ k → e = j + (((bs s).drop j).takeWhile isDb).length →
    (e - fr > 15 → ∃ q, spec_l6Parts.l1 k s acc (j : Int) (fr : Int) x = some (q, false)) ∧
    (e - fr ≤ 15 → ∃ y, ∀ r, (∀ k', k ≤ k' + 2 * n + 3 → spec_l6Parts.l0 k' s (acc ++ [⟨⟨#[]⟩, y⟩]) (e : Int) = some r) → spec_l6Parts.l1 k s acc (j : Int) (fr : Int) x = some r) := by
  intro n
  induction n with
  | zero =>
    intro j k x e hj hi h15 hk he
    obtain ⟨k, rfl⟩ : ∃ k', k = k' + 2 := ⟨k - 2, by omega⟩
    rw [List.drop_eq_nil_of_le (by rw [bs_length]; omega)] at he
    simp at he
    subst he
    refine ⟨fun h => by omega, fun _ => ⟨x, fun r hr => ?_⟩⟩
    rw [spec_l6Parts.l1, if_neg (by omega), spec_l6Parts.j3, if_neg (by decide), if_pos (by omega)]
    exact hr k (by omega)
  | succ n ih =>
    intro j k x e hj hi h15 hk he
    obtain ⟨k, rfl⟩ : ∃ k', k = k' + 2 := ⟨k - 2, by omega⟩
    have hjl : j < (bs s).length := by rw [bs_length]; omega
    rw [tw_step isDb (bs s) j hjl] at he
    obtain ⟨y0, hstep⟩ := spec_l1_step s hs acc ha fr j k x (by omega) hi
    rw [hstep]
    cases hd : isDb (bs s)[j] with
    | true =>
      rw [if_pos hd, List.length_cons] at he
      rw [if_pos rfl]
      by_cases h16 : j + 1 - fr > 15
      · rw [if_pos h16]
        exact ⟨fun _ => ⟨_, rfl⟩, fun h => by omega⟩
      · rw [if_neg h16]
        obtain ⟨q1, q2⟩ := ih (j + 1) k y0 e (by omega) (by omega) (by omega) (by omega) (by omega)
        refine ⟨q1, fun h => ?_⟩
        obtain ⟨y, hy⟩ := q2 h
        exact ⟨y, fun r hr => hy r (fun k' hk' => hr k' (by omega))⟩
    | false =>
      rw [if_neg (by simp [hd])] at he
      simp at he
      subst he
      rw [if_neg (by decide)]
      exact ⟨fun h => by omega, fun _ => ⟨x, fun r hr => hr k (by omega)⟩⟩
theorem spec_parts_l2 (s : ByteArray) (hs : s.size ≤ 30) (acc : List S112) (ha : acc.length ≤ 30) (i : Nat) : ∀ (n j k : Nat) (e : Nat), j + n = s.size → i ≤ j → n + 1 ≤ k → e = j + (((bs s).drop j).takeWhile isLb).length →
    ∃ y : S112, ∀ r, (∀ k', k ≤ k' + n + 1 → spec_l6Parts.l0 k' s (acc ++ [y]) (e : Int) = some r) → spec_l6Parts.l2 k s acc (j : Int) (i : Int) = some r := by
  intro n
  induction n with
  | zero =>
    intro j k e hj hi hk he
    obtain ⟨k, rfl⟩ : ∃ k', k = k' + 1 := ⟨k - 1, by omega⟩
    rw [List.drop_eq_nil_of_le (by rw [bs_length]; omega)] at he
    simp at he
    subst he
    refine ⟨⟨s.extract i e, 0⟩, fun r hr => ?_⟩
    rw [spec_l6Parts.l2, if_neg (by omega), if_pos (by omega), if_pos (by omega), if_pos (by omega), if_pos (by omega)]
    exact hr k (by omega)
  | succ n ih =>
    intro j k e hj hi hk he
    obtain ⟨k, rfl⟩ : ∃ k', k = k' + 1 := ⟨k - 1, by omega⟩
    have hjl : j < (bs s).length := by rw [bs_length]; omega
    rw [tw_step isLb (bs s) j hjl] at he
    rw [spec_l6Parts.l2, if_pos (by omega), if_pos (by omega), bt_isLs s j (by omega), Option.bind_some]
    cases hd : isLb (bs s)[j] with
    | true =>
      rw [if_pos hd, List.length_cons] at he
      have hw : wrap64 ((j : Int) + 1) = ((j + 1 : Nat) : Int) := by rw [wrap64_id (by omega) (by omega)]; omega
      obtain ⟨y, hy⟩ := ih (j + 1) k e (by omega) (by omega) (by omega) (by omega)
      refine ⟨y, fun r hr => ?_⟩
      rw [if_pos rfl, hw]
      exact hy r (fun k' hk' => hr k' (by omega))
    | false =>
      rw [if_neg (by simp [hd])] at he
      simp at he
      subst he
      refine ⟨⟨s.extract i e, 0⟩, fun r hr => ?_⟩
      rw [if_neg (by decide), if_pos (by omega), if_pos (by omega), if_pos (by omega), if_pos (by omega)]
      exact hr k (by omega)
theorem spec_parts_l0 (s : ByteArray) (hs : s.size ≤ 30) : ∀ (m i : Nat) (acc : List S112), i ≤ s.size → s.size - i ≤ m → acc.length ≤ i →
    ∃ q, ∀ k, 128 * (m + 1) ≤ k → spec_l6Parts.l0 k s acc (i : Int) = some (q, (tok m ((bs s).drop i)).isSome) := by
  intro m
  induction m with
  | zero =>
    intro i acc hi hm ha
    refine ⟨acc, fun k hk => ?_⟩
    obtain ⟨k, rfl⟩ : ∃ k', k = k' + 1 := ⟨k - 1, by omega⟩
    rw [spec_l6Parts.l0, if_neg (by omega), List.drop_eq_nil_of_le (by rw [bs_length]; omega), tok]; rfl
  | succ m ih =>
    intro i acc hi hm ha
    by_cases hlt : i < s.size
    · have hil : i < (bs s).length := by rw [bs_length]; exact hlt
      have hd := List.drop_eq_getElem_cons hil
      have hT : (tok (m + 1) ((bs s).drop i)).isSome = if isDb (bs s)[i] then (if (((bs s).drop i).takeWhile isDb).length > 15 then false else (tok m (((bs s).drop i).dropWhile isDb)).isSome)
          else if isLb (bs s)[i] then (tok m (((bs s).drop i).dropWhile isLb)).isSome
          else if (bs s)[i] = 46 ∨ (bs s)[i] = 45 then (tok m ((bs s).drop (i + 1))).isSome else false := by
        rw [hd, tok, ← hd]
        repeat' split
        all_goals simp_all
      have hone : ∀ p : UInt8 → Bool, p (bs s)[i] = true → 1 ≤ (((bs s).drop i).takeWhile p).length := fun p h => by rw [tw_step p (bs s) i hil, if_pos h]; simp
      have hle : ∀ p : UInt8 → Bool, (((bs s).drop i).takeWhile p).length ≤ s.size - i := fun p => by have := tw_len p ((bs s).drop i); rwa [List.length_drop, bs_length] at this
      have hk0 : ∀ k, 128 * (m + 1 + 1) ≤ k → ∃ k', k = k' + 1 := fun k hk => ⟨k - 1, by omega⟩
      cases hD : isDb (bs s)[i] with
      | true =>
        rw [hD, if_pos rfl] at hT
        have h1 := hone isDb hD
        have h2 := hle isDb
        by_cases h15 : (((bs s).drop i).takeWhile isDb).length > 15
        · rw [if_pos h15] at hT
          obtain ⟨k1, hk1⟩ := hk0 (128 * (m + 1 + 1)) (Nat.le_refl _)
          obtain ⟨q, hq⟩ := (spec_parts_l1 s hs acc (by omega) i (s.size - i) i k1 0 (i + (((bs s).drop i).takeWhile isDb).length) (by omega) (Nat.le_refl _) (by omega) (by omega) rfl).1 (by omega)
          refine ⟨q, fun k hk => ?_⟩
          have h0 : spec_l6Parts.l0 (128 * (m + 1 + 1)) s acc (i : Int) = some (q, false) := by
            rw [hk1, spec_l6Parts.l0, if_pos (by omega), if_pos (by omega), bt_isDs s i hlt, Option.bind_some, hD, if_pos rfl, hq]
          rw [hT]
          exact at_rounds (fun k => (spec_l6Parts.mono_l k).2.1 _ _ _) hk h0
        · rw [if_neg h15] at hT
          obtain ⟨k1, hk1⟩ := hk0 (128 * (m + 1 + 1)) (Nat.le_refl _)
          obtain ⟨y, hy⟩ := (spec_parts_l1 s hs acc (by omega) i (s.size - i) i k1 0 (i + (((bs s).drop i).takeWhile isDb).length) (by omega) (Nat.le_refl _) (by omega) (by omega) rfl).2 (by omega)
          obtain ⟨q, hq⟩ := ih (i + (((bs s).drop i).takeWhile isDb).length) (acc ++ [⟨⟨#[]⟩, y⟩]) (by omega) (by omega) (by simp; omega)
          refine ⟨q, fun k hk => ?_⟩
          have h0 : spec_l6Parts.l0 (128 * (m + 1 + 1)) s acc (i : Int) = some (q, (tok m (((bs s).drop i).dropWhile isDb)).isSome) := by
            rw [hk1, spec_l6Parts.l0, if_pos (by omega), if_pos (by omega), bt_isDs s i hlt, Option.bind_some, hD, if_pos rfl, dw_eq]
            exact hy _ (fun k' hk' => hq k' (by omega))
          rw [hT]
          exact at_rounds (fun k => (spec_l6Parts.mono_l k).2.1 _ _ _) hk h0
      | false =>
        rw [hD, if_neg (by decide)] at hT
        cases hL : isLb (bs s)[i] with
        | true =>
          rw [hL, if_pos rfl] at hT
          have h1 := hone isLb hL
          have h2 := hle isLb
          obtain ⟨k1, hk1⟩ := hk0 (128 * (m + 1 + 1)) (Nat.le_refl _)
          obtain ⟨y, hy⟩ := spec_parts_l2 s hs acc (by omega) i (s.size - i) i k1 (i + (((bs s).drop i).takeWhile isLb).length) (by omega) (Nat.le_refl _) (by omega) rfl
          obtain ⟨q, hq⟩ := ih (i + (((bs s).drop i).takeWhile isLb).length) (acc ++ [y]) (by omega) (by omega) (by simp; omega)
          refine ⟨q, fun k hk => ?_⟩
          have h0 : spec_l6Parts.l0 (128 * (m + 1 + 1)) s acc (i : Int) = some (q, (tok m (((bs s).drop i).dropWhile isLb)).isSome) := by
            rw [hk1, spec_l6Parts.l0, if_pos (by omega), if_pos (by omega), bt_isDs s i hlt, Option.bind_some, hD, if_neg (by decide), bt_isLs s i hlt, Option.bind_some, hL, if_pos rfl, dw_eq]
            exact hy _ (fun k' hk' => hq k' (by omega))
          rw [hT]
          exact at_rounds (fun k => (spec_l6Parts.mono_l k).2.1 _ _ _) hk h0
        | false =>
          rw [hL, if_neg (by decide)] at hT
          have hw : wrap64 ((i : Int) + 1) = ((i + 1 : Nat) : Int) := by rw [wrap64_id (by omega) (by omega)]; omega
          have hb := bt_nat s i hlt
          have e46 : bt s (i : Int) = 46 ↔ (bs s)[i] = 46 := by
            rw [hb]
            constructor
            · intro h; exact UInt8.toNat_inj.mp (by show _ = 46; omega)
            · intro h; rw [h]; rfl
          have e45 : bt s (i : Int) = 45 ↔ (bs s)[i] = 45 := by
            rw [hb]
            constructor
            · intro h; exact UInt8.toNat_inj.mp (by show _ = 45; omega)
            · intro h; rw [h]; rfl
          obtain ⟨q, hq⟩ := ih (i + 1) acc (by omega) (by omega) (by omega)
          by_cases hc : (bs s)[i] = 46 ∨ (bs s)[i] = 45
          · refine ⟨q, fun k hk => ?_⟩
            obtain ⟨k, rfl⟩ := hk0 k hk
            rw [spec_l6Parts.l0, if_pos (by omega), if_pos (by omega), bt_isDs s i hlt, Option.bind_some, hD, if_neg (by decide), bt_isLs s i hlt, Option.bind_some, hL, if_neg (by decide), hw, hT, if_pos hc]
            by_cases h46 : (bs s)[i] = 46
            · rw [if_pos (e46.2 h46)]; exact hq k (by omega)
            · rw [if_neg (fun h => h46 (e46.1 h)), if_pos (e45.2 (hc.resolve_left h46))]; exact hq k (by omega)
          · refine ⟨acc, fun k hk => ?_⟩
            obtain ⟨k, rfl⟩ := hk0 k hk
            rw [spec_l6Parts.l0, if_pos (by omega), if_pos (by omega), bt_isDs s i hlt, Option.bind_some, hD, if_neg (by decide), bt_isLs s i hlt, Option.bind_some, hL, if_neg (by decide), hT, if_neg hc,
              if_neg (fun h => hc (.inl (e46.1 h))), if_neg (fun h => hc (.inr (e45.1 h)))]
    · refine ⟨acc, fun k hk => ?_⟩
      obtain ⟨k, rfl⟩ : ∃ k', k = k' + 1 := ⟨k - 1, by omega⟩
      rw [spec_l6Parts.l0, if_neg (by omega), List.drop_eq_nil_of_le (by rw [bs_length]; omega), tok]; rfl
theorem spec_VersionOk_eq (s : ByteArray) (k : Nat) (hk : 4100 ≤ k) : spec_VersionOk.f k s = some (verOk s) := by
  obtain ⟨k, rfl⟩ : ∃ k', k = k' + 1 := ⟨k - 1, by omega⟩
  unfold spec_VersionOk.f spec_l6Parts.f verOk
  rw [Option.bind_some]
  by_cases h1 : s.size < 1
  · rw [if_pos (by omega), spec_l6Parts.j0, if_pos rfl, decide_eq_false (by omega)]; rfl
  · rw [if_neg (by omega)]
    by_cases h2 : s.size > 30
    · rw [if_pos (by omega), spec_l6Parts.j0, if_pos rfl, decide_eq_false (p := s.size ≤ 30) (by omega)]
      simp
    · rw [if_neg (by omega), if_pos (by omega), spec_l1Digit_eq, Option.bind_some, spec_l6Parts.j0]
      cases hd : isD (bt s 0) with
      | false => simp
      | true =>
        obtain ⟨q, hq⟩ := spec_parts_l0 s (by omega) 30 0 [] (by omega) (by omega) (by simp)
        have := hq k (by omega)
        rw [show ((0 : Nat) : Int) = 0 from rfl, List.drop_zero] at this
        simp [this, show 1 ≤ s.size by omega, show s.size ≤ 30 by omega]
end Go.Proofs.YtgknoemegejlkaaDoor.P
end

section
set_option linter.unusedVariables false
set_option linter.unusedSimpArgs false
namespace Go.Proofs.YtgknoemegejlkaaDoor.P
open Go.RowKit Go.Proofs.YtgknoemegejlkaaDoorW.PrintWords Go.Proofs.YtgknoemegejlkaaDoorW.PrintLast Go.Proofs.YtgknoemegejlkaaDoorM
def gv (l : List S66) (i : Nat) : S66 := l.getD i z66
theorem rd_gv (l : List S66) (i : Nat) : rd_T66 l (i : Int) = gv l i := by simp [rd_T66, gv]
def rk (l : List S66) (i : Nat) : Int := if l.length ≤ i then 1 else if bs (gv l i).f1 = [] then 2 else 0
theorem rk_range (l : List S66) (i : Nat) : rk l i = 0 ∨ rk l i = 1 ∨ rk l i = 2 := by
  unfold rk
  split
  · simp
  · split <;> simp
theorem impl_rank_eq (l : List S66) (i : Nat) : impl_rank.f l (i : Int) = some (rk l i) := by
  unfold impl_rank.f rk
  by_cases h : l.length ≤ i
  · rw [if_pos (by omega), if_pos h]
  · rw [if_neg (by omega), if_pos (by omega), if_pos (by omega), rd_gv, if_neg h, toList_bs]
    by_cases h2 : bs (gv l i).f1 = []
    · rw [if_pos h2, if_pos h2]
    · rw [if_neg h2, if_neg h2]
def sgn (a b : Int) : Int := if a < b then -1 else if b < a then 1 else 0
def kc (x y : List S66) (i : Nat) : Int := if rk x i = rk y i then (if rk x i = 0 then Lib.compareBytes (bs (gv x i).f1) (bs (gv y i).f1) else if rk x i = 2 then sgn (gv x i).f0 (gv y i).f0 else 0) else sgn (rk x i) (rk y i)
theorem sgn_range (a b : Int) : sgn a b = -1 ∨ sgn a b = 0 ∨ sgn a b = 1 := by
  unfold sgn
  split
  · simp
  · split <;> simp
theorem sgn_anti (a b : Int) : sgn b a = - sgn a b := by
  unfold sgn
  repeat' split
  all_goals omega
theorem kc_range (x y : List S66) (i : Nat) : kc x y i = -1 ∨ kc x y i = 0 ∨ kc x y i = 1 := by
  unfold kc
  split
  · split
    · exact cmpB_range _ _
    · split
      · exact sgn_range _ _
      · simp
  · exact sgn_range _ _
theorem kc_anti (x y : List S66) (i : Nat) : kc y x i = - kc x y i := by
  unfold kc
  by_cases h : rk x i = rk y i
  · rw [if_pos h, if_pos h.symm, ← h]
    by_cases h0 : rk x i = 0
    · rw [if_pos h0, if_pos h0]; exact cmpB_anti _ _
    · rw [if_neg h0, if_neg h0]
      by_cases h2 : rk x i = 2
      · rw [if_pos h2, if_pos h2]; exact sgn_anti _ _
      · rw [if_neg h2, if_neg h2]; rfl
  · rw [if_neg h, if_neg (fun e => h e.symm)]; exact sgn_anti _ _
theorem kc_refl (x : List S66) (i : Nat) : kc x x i = 0 := by
  have := kc_anti x x i
  omega
theorem sgn_tri (a b c : Int) : (sgn a b = 0 → sgn a c = sgn b c) ∧ (sgn b c = 0 → sgn a c = sgn a b) ∧ (sgn a b < 0 → sgn b c < 0 → sgn a c < 0) := by
  unfold sgn
  refine ⟨?_, ?_, ?_⟩
  all_goals (repeat' split)
  all_goals omega
theorem kc_tri (x y z : List S66) (i : Nat) : (kc x y i = 0 → kc x z i = kc y z i) ∧ (kc y z i = 0 → kc x z i = kc x y i) ∧ (kc x y i < 0 → kc y z i < 0 → kc x z i < 0) := by
  have sg : ∀ a b : Int, a ≠ b → sgn a b ≠ 0 := fun a b h => by
    unfold sgn
    repeat' split
    all_goals omega
  have t := sgn_tri (rk x i) (rk y i) (rk z i)
  have t2 := sgn_tri (gv x i).f0 (gv y i).f0 (gv z i).f0
  have t3 := cmpB_tri (bs (gv x i).f1) (bs (gv y i).f1) (bs (gv z i).f1)
  unfold kc
  by_cases h1 : rk x i = rk y i
  · by_cases h2 : rk y i = rk z i
    · have h3 : rk x i = rk z i := h1.trans h2
      rw [if_pos h1, if_pos h2, if_pos h3, ← h1]
      by_cases h0 : rk x i = 0
      · simp only [if_pos h0]; exact t3
      · simp only [if_neg h0]
        by_cases h4 : rk x i = 2
        · simp only [if_pos h4]; exact t2
        · simp only [if_neg h4]; exact ⟨fun _ => by trivial, fun _ => by trivial, fun h => by omega⟩
    · have h3 : ¬ rk x i = rk z i := fun e => h2 (h1.symm.trans e)
      rw [if_pos h1, if_neg h2, if_neg h3, h1]
      refine ⟨fun _ => rfl, fun h => absurd h (sg _ _ h2), fun _ h => h⟩
  · by_cases h2 : rk y i = rk z i
    · have h3 : ¬ rk x i = rk z i := fun e => h1 (e.trans h2.symm)
      rw [if_neg h1, if_pos h2, if_neg h3, ← h2]
      exact ⟨fun h => absurd h (sg _ _ h1), fun _ => rfl, fun h _ => h⟩
    · rw [if_neg h1, if_neg h2]
      by_cases h3 : rk x i = rk z i
      · rw [if_pos h3]
        refine ⟨fun h => absurd h (sg _ _ h1), fun h => absurd h (sg _ _ h2), fun ha hb => ?_⟩
        have := t.2.2 ha hb
        rw [h3] at this
        unfold sgn at this
        rw [if_neg (by omega), if_neg (by omega)] at this
        omega
      · rw [if_neg h3]; exact ⟨fun h => absurd h (sg _ _ h1), fun h => absurd h (sg _ _ h2), t.2.2⟩
def cmpN (x y : List S66) : Nat → Nat → Int
  | 0, _ => 0
  | m + 1, i => if kc x y i = 0 then cmpN x y m (i + 1) else kc x y i
theorem cmpN_anti (x y : List S66) : ∀ m i, cmpN y x m i = - cmpN x y m i
  | 0, _ => rfl
  | m + 1, i => by
    have := kc_anti x y i
    rw [cmpN, cmpN, cmpN_anti x y m (i + 1)]
    by_cases h : kc x y i = 0
    · rw [if_pos (by omega), if_pos h]
    · rw [if_neg (by omega), if_neg h, this]
theorem cmpN_range (x y : List S66) : ∀ m i, cmpN x y m i = -1 ∨ cmpN x y m i = 0 ∨ cmpN x y m i = 1
  | 0, _ => .inr (.inl rfl)
  | m + 1, i => by
    rw [cmpN]
    split
    · exact cmpN_range x y m (i + 1)
    · exact kc_range x y i
theorem cmpN_refl (x : List S66) (m i : Nat) : cmpN x x m i = 0 := by
  have := cmpN_anti x x m i
  omega
theorem cmpN_trans (x y z : List S66) : ∀ m i, cmpN x y m i ≤ 0 → cmpN y z m i ≤ 0 → cmpN x z m i ≤ 0 ∧ (cmpN x y m i = 0 → cmpN y z m i = 0 → cmpN x z m i = 0)
  | 0, _, _, _ => by simp [cmpN]
  | m + 1, i, h1, h2 => by
    obtain ⟨t1, t2, t3⟩ := kc_tri x y z i
    have r1 := kc_range x y i
    have r2 := kc_range y z i
    rw [cmpN] at h1 h2 ⊢
    rw [cmpN, cmpN]
    by_cases a : kc x y i = 0
    · rw [if_pos a] at h1
      have e := t1 a
      by_cases b : kc y z i = 0
      · rw [if_pos b] at h2
        rw [if_pos (e.trans b), if_pos a, if_pos b]
        exact cmpN_trans x y z m (i + 1) h1 h2
      · rw [if_neg b] at h2
        rw [e, if_neg b, if_neg b]
        exact ⟨h2, fun _ h => absurd h b⟩
    · rw [if_neg a] at h1
      by_cases b : kc y z i = 0
      · have e := t2 b
        rw [e, if_neg a, if_neg a]
        exact ⟨h1, fun h => absurd h a⟩
      · rw [if_neg b] at h2
        have e := t3 (by omega) (by omega)
        rw [if_neg (by omega), if_neg a]
        exact ⟨by omega, fun h => absurd h a⟩
theorem kc_beyond (x y : List S66) (i : Nat) (hx : x.length ≤ i) (hy : y.length ≤ i) : kc x y i = 0 := by
  have a : rk x i = 1 := by unfold rk; rw [if_pos hx]
  have b : rk y i = 1 := by unfold rk; rw [if_pos hy]
  unfold kc
  rw [a, b]; rfl
theorem cmpN_beyond (x y : List S66) : ∀ m i, x.length ≤ i → y.length ≤ i → cmpN x y m i = 0
  | 0, _, _, _ => rfl
  | m + 1, i, hx, hy => by
    rw [cmpN, if_pos (kc_beyond x y i hx hy), cmpN_beyond x y m (i + 1) (by omega) (by omega)]
theorem rk_two {l : List S66} {i : Nat} (h : rk l i ≠ 1) : i < l.length := by
  unfold rk at h
  split at h
  · exact absurd rfl h
  · omega
theorem cmp_round (k : Nat) (x y : List S66) (i : Nat) (hl : x.length ≤ 100 ∧ y.length ≤ 100) (hi : i < x.length ∨ i < y.length) :
    impl_CompareVersions.l0 (k + 6) x y (i : Int) = if kc x y i < 0 then some (-1) else if kc x y i > 0 then some 1 else impl_CompareVersions.l0 k x y ((i + 1 : Nat) : Int) := by
  have rx := rk_range x i
  have ry := rk_range y i
  have hw : wrap64 ((i : Int) + 1) = ((i + 1 : Nat) : Int) := by rw [wrap64_id (by omega) (by omega)]; omega
  have j6 : ∀ c : Int, impl_CompareVersions.j6 (k + 1) x y (i : Int) c = if c < 0 then some (-1) else if c > 0 then some 1 else impl_CompareVersions.l0 k x y ((i + 1 : Nat) : Int) := fun c => by rw [impl_CompareVersions.j6, hw]
  clear hw
  have hc : impl_CompareVersions.l0 (k + 6) x y (i : Int) = impl_CompareVersions.j2 (k + 5) x y (i : Int) true := by
    rw [impl_CompareVersions.l0]
    by_cases h : i < x.length
    · rw [if_pos (by omega)]
    · rw [if_neg (by omega), decide_eq_true (by omega)]
  have hs : wrap64 (rk x i - rk y i) = rk x i - rk y i := wrap64_id (by omega) (by omega)
  rw [hc, impl_CompareVersions.j2, if_pos rfl, impl_rank_eq, impl_rank_eq, Option.bind_some, Option.bind_some, hs]
  clear hs hc
  have hkc : kc x y i = if rk x i = rk y i then (if rk x i = 0 then Lib.compareBytes (bs (gv x i).f1) (bs (gv y i).f1) else if rk x i = 2 then sgn (gv x i).f0 (gv y i).f0 else 0) else sgn (rk x i) (rk y i) := rfl
  by_cases he : rk x i = rk y i
  · rw [if_pos he] at hkc
    rw [if_pos (by omega), impl_CompareVersions.j3]
    by_cases h0 : rk x i = 0
    · have h1 := rk_two (l := x) (i := i) (by omega)
      have h2 := rk_two (l := y) (i := i) (by omega)
      rw [if_pos h0] at hkc
      have hcmp : strings_Compare.f (gv x i).f1 (gv y i).f1 = some (kc x y i) := by rw [hkc]; rfl
      rw [if_pos (by rw [h0]; rfl), if_pos (by omega), if_pos (by omega), if_pos (by omega), rd_gv, rd_gv, hcmp, Option.bind_some, impl_CompareVersions.j4]
      by_cases hz : kc x y i = 0
      · rw [if_pos hz, h0, impl_CompareVersions.j5, if_neg (by decide), j6]
      · rw [if_neg hz, impl_CompareVersions.j5, if_neg (by decide), j6]
    · rw [if_neg h0] at hkc
      rw [if_neg (by simpa using h0), impl_CompareVersions.j4, if_pos (by omega), impl_CompareVersions.j5]
      by_cases h2 : rk x i = 2
      · have g1 := rk_two (l := x) (i := i) (by omega)
        have g2 := rk_two (l := y) (i := i) (by omega)
        rw [if_pos h2] at hkc
        rw [if_pos (by rw [h2]; rfl), if_pos (by omega), if_pos (by omega), if_pos (by omega), rd_gv, rd_gv, hkc]
        unfold sgn
        by_cases a : (gv x i).f0 < (gv y i).f0
        · rw [if_pos a, if_pos a, j6]
        · rw [if_neg a, if_neg a]
          by_cases b : (gv x i).f0 > (gv y i).f0
          · rw [if_pos b, if_pos (show (gv y i).f0 < (gv x i).f0 from b), j6]
          · rw [if_neg b, if_neg (show ¬ (gv y i).f0 < (gv x i).f0 from b), j6, show rk x i - rk y i = 0 by omega]
      · rw [if_neg h2] at hkc
        rw [if_neg (by simpa using h2), j6, hkc, show rk x i - rk y i = 0 by omega]
  · rw [if_neg he] at hkc
    rw [if_neg (by omega), impl_CompareVersions.j3, if_neg (by decide), impl_CompareVersions.j4, if_neg (by omega), impl_CompareVersions.j5, if_neg (by decide), j6, hkc]
    by_cases a : rk x i < rk y i
    · have e : sgn (rk x i) (rk y i) = -1 := by unfold sgn; rw [if_pos a]
      rw [e, if_pos (show rk x i - rk y i < 0 by omega), if_pos (by decide)]
    · have a2 : rk y i < rk x i := by omega
      have e : sgn (rk x i) (rk y i) = 1 := by unfold sgn; rw [if_neg a, if_pos a2]
      rw [e, if_neg (show ¬ rk x i - rk y i < 0 by omega), if_pos (show rk x i - rk y i > 0 by omega)]
      rfl
theorem cmp_end (k : Nat) (x y : List S66) (i : Nat) (hx : x.length ≤ i) (hy : y.length ≤ i) : impl_CompareVersions.l0 (k + 2) x y (i : Int) = some 0 := by
  rw [impl_CompareVersions.l0, if_neg (by omega), impl_CompareVersions.j2, decide_eq_false (by omega), if_neg (by decide)]
theorem cmp_l0 (x y : List S66) (hl : x.length ≤ 100 ∧ y.length ≤ 100) : ∀ (m k i : Nat), x.length ≤ i + m → y.length ≤ i + m → 6 * m + 2 ≤ k → impl_CompareVersions.l0 k x y (i : Int) = some (cmpN x y m i) := by
  intro m
  induction m with
  | zero =>
    intro k i hx hy hk
    obtain ⟨k, rfl⟩ : ∃ k', k = k' + 2 := ⟨k - 2, by omega⟩
    rw [cmp_end k x y i (by omega) (by omega)]; rfl
  | succ m ih =>
    intro k i hx hy hk
    by_cases hi : i < x.length ∨ i < y.length
    · obtain ⟨k, rfl⟩ : ∃ k', k = k' + 6 := ⟨k - 6, by omega⟩
      have hr := kc_range x y i
      rw [cmp_round k x y i hl hi, cmpN, ih k (i + 1) (by omega) (by omega) (by omega)]
      by_cases h0 : kc x y i = 0
      · rw [if_pos h0, if_neg (by omega), if_neg (by omega)]
      · rw [if_neg h0]
        by_cases hn : kc x y i < 0
        · rw [if_pos hn, show kc x y i = -1 by omega]
        · rw [if_neg hn, if_pos (by omega), show kc x y i = 1 by omega]
    · obtain ⟨k, rfl⟩ : ∃ k', k = k' + 2 := ⟨k - 2, by omega⟩
      rw [cmp_end k x y i (by omega) (by omega), cmpN_beyond x y _ i (by omega) (by omega)]
theorem tok_length : ∀ (f : Nat) (l : List UInt8) (r : List S66), tok f l = some r → r.length ≤ l.length
  | _, [], r, h => by
    have : r = [] := by
      cases ‹Nat› <;> (rw [tok] at h; exact (Option.some.inj h).symm)
    rw [this]; exact Nat.le_refl _
  | 0, c :: l, r, h => by rw [tok] at h; cases h
  | f + 1, c :: l, r, h => by
    rw [tok] at h
    have dl : ∀ p : UInt8 → Bool, p c = true → ((c :: l).dropWhile p).length ≤ l.length := fun p hp => by
      rw [List.dropWhile_cons, if_pos hp]
      exact (List.dropWhile_sublist p).length_le
    split at h
    · rename_i hd
      split at h
      · cases h
      · obtain ⟨q, hq, rfl⟩ := Option.map_eq_some_iff.1 h
        have := tok_length f _ q hq
        have := dl isDb hd
        simp; omega
    · split at h
      · rename_i hd
        obtain ⟨q, hq, rfl⟩ := Option.map_eq_some_iff.1 h
        have := tok_length f _ q hq
        have := dl isLb hd
        simp; omega
      · split at h
        · have := tok_length f _ r h
          simp; omega
        · cases h
theorem toks_length {s : ByteArray} (h : verOk s = true) : (toks s).length ≤ 30 := by
  unfold verOk at h
  simp only [Bool.and_eq_true, decide_eq_true_iff] at h
  obtain ⟨_, h2, _, h4⟩ := h
  obtain ⟨r, hr⟩ := Option.isSome_iff_exists.1 h4
  have := tok_length 30 _ r hr
  rw [bs_length] at this
  unfold toks
  rw [hr]
  exact Nat.le_trans this h2
def vc (a b : ByteArray) : Int := cmpN (toks a) (toks b) 64 0
theorem CompareVersions_eq (a b : ByteArray) (k : Nat) (hk : 2001 ≤ k) : impl_CompareVersions.f k a b = some (if verOk a = true ∧ verOk b = true then vc a b else 2) := by
  obtain ⟨k, rfl⟩ : ∃ k', k = k' + 1 := ⟨k - 1, by omega⟩
  unfold impl_CompareVersions.f
  rw [impl_parts_eq a _ (by omega), impl_parts_eq b _ (by omega), Option.bind_some, Option.bind_some]
  cases ha : verOk a with
  | false => simp [impl_CompareVersions.j0]
  | true =>
    cases hb : verOk b with
    | false => simp [impl_CompareVersions.j0]
    | true =>
      have h1 := toks_length ha
      have h2 := toks_length hb
      have := cmp_l0 (toks a) (toks b) ⟨by omega, by omega⟩ 64 k 0 (by omega) (by omega) (by omega)
      rw [show ((0 : Nat) : Int) = 0 from rfl] at this
      simp [impl_CompareVersions.j0, this, vc]
theorem tw_app (p : UInt8 → Bool) (c : UInt8) (t : List UInt8) (hc : p c = false) : ∀ l : List UInt8, (l ++ c :: t).takeWhile p = l.takeWhile p ∧ (l ++ c :: t).dropWhile p = l.dropWhile p ++ c :: t
  | [] => by simp [List.takeWhile_cons, List.dropWhile_cons, hc]
  | a :: l => by
    obtain ⟨h1, h2⟩ := tw_app p c t hc l
    rw [List.cons_append, List.takeWhile_cons, List.dropWhile_cons, List.takeWhile_cons, List.dropWhile_cons]
    cases p a with
    | true => simp [h1, h2]
    | false => simp
theorem tok_more : ∀ (f : Nat) (l : List UInt8), l.length ≤ f → tok (f + 1) l = tok f l
  | 0, l, h => by
    obtain rfl := List.eq_nil_of_length_eq_zero (Nat.le_zero.1 h)
    rfl
  | f + 1, [], _ => rfl
  | f + 1, c :: l, h => by
    have dl : ∀ p : UInt8 → Bool, p c = true → ((c :: l).dropWhile p).length ≤ f := fun p hp => by
      rw [List.dropWhile_cons, if_pos hp]
      have := (List.dropWhile_sublist p (l := l)).length_le
      simp at h; omega
    conv => lhs; rw [tok]
    conv => rhs; rw [tok]
    cases hd : isDb c with
    | true => simp only [tok_more f _ (dl isDb hd)]; rfl
    | false =>
      cases hl : isLb c with
      | true => simp only [tok_more f _ (dl isLb hl)]; rfl
      | false => simp only [tok_more f l (by simpa using h)]; rfl
theorem tok_enough (l : List UInt8) : ∀ (d f : Nat), l.length ≤ f → tok (f + d) l = tok f l
  | 0, f, _ => rfl
  | d + 1, f, h => by
    rw [show f + (d + 1) = (f + d) + 1 by omega, tok_more _ l (by omega), tok_enough l d f h]
theorem tok_app (c : UInt8) (t : List UInt8) (h1 : isDb c = false) (h2 : isLb c = false) : ∀ (f : Nat) (l : List UInt8), l.length ≤ f → ∀ r q, tok f l = some r → tok t.length.succ (c :: t) = some q → tok (f + t.length.succ) (l ++ c :: t) = some (r ++ q)
  | f, [], h, r, q, hr, hq => by
    have : r = [] := by cases f <;> (rw [tok] at hr; exact (Option.some.inj hr).symm)
    subst this
    rw [List.nil_append, List.nil_append, Nat.add_comm, tok_enough _ f _ (by simp), hq]
  | 0, a :: l, h, r, q, hr, hq => by simp at h
  | f + 1, a :: l, h, r, q, hr, hq => by
    have dl : ∀ p : UInt8 → Bool, p a = true → ((a :: l).dropWhile p).length ≤ f := fun p hp => by
      rw [List.dropWhile_cons, if_pos hp]
      have := (List.dropWhile_sublist p (l := l)).length_le
      simp at h; omega
    obtain ⟨d1, d2⟩ := tw_app isDb c t h1 (a :: l)
    obtain ⟨l1, l2⟩ := tw_app isLb c t h2 (a :: l)
    rw [tok] at hr
    rw [show f + 1 + t.length.succ = (f + t.length.succ) + 1 by omega, List.cons_append, tok, ← List.cons_append, d1, d2, l1, l2]
    cases hd : isDb a with
    | true =>
      rw [hd, if_pos rfl] at hr
      rw [if_pos rfl]
      split at hr
      · cases hr
      · rename_i h15
        obtain ⟨r', hr', rfl⟩ := Option.map_eq_some_iff.1 hr
        rw [if_neg h15, tok_app c t h1 h2 f _ (dl isDb hd) r' q hr' hq]
        simp
    | false =>
      rw [hd, if_neg (by decide)] at hr
      rw [if_neg (by decide)]
      cases hl : isLb a with
      | true =>
        rw [hl, if_pos rfl] at hr
        obtain ⟨r', hr', rfl⟩ := Option.map_eq_some_iff.1 hr
        rw [if_pos rfl, tok_app c t h1 h2 f _ (dl isLb hl) r' q hr' hq]
        simp
      | false =>
        rw [hl, if_neg (by decide)] at hr
        rw [if_neg (by decide)]
        split at hr
        · rename_i hc
          rw [if_pos hc]
          exact tok_app c t h1 h2 f l (by simpa using h) r q hr hq
        · cases hr
theorem ver_app (s : ByteArray) (c d : UInt8) (q : S66) (h1 : isDb c = false) (h2 : isLb c = false) (hq : tok 2 [c, d] = some [q]) (hv : verOk s = true) (hs : s.size + 2 ≤ 30) : verOk (s ++ ⟨#[c, d]⟩) = true ∧ toks (s ++ ⟨#[c, d]⟩) = toks s ++ [q] := by
  have hb : bs (s ++ ⟨#[c, d]⟩) = bs s ++ [c, d] := by simp [bs]
  have hsz : (s ++ (⟨#[c, d]⟩ : ByteArray)).size = s.size + 2 := by rw [ByteArray.size_append]; rfl
  unfold verOk at hv ⊢
  simp only [Bool.and_eq_true, decide_eq_true_iff] at hv ⊢
  obtain ⟨v1, v2, v3, v4⟩ := hv
  obtain ⟨r, hr⟩ := Option.isSome_iff_exists.1 v4
  have hl : (bs s).length ≤ 28 := by rw [bs_length]; omega
  have hr28 : tok 28 (bs s) = some r := by rw [← tok_enough (bs s) 2 28 hl]; exact hr
  have ht : tok 30 (bs s ++ [c, d]) = some (r ++ [q]) := tok_app c [d] h1 h2 28 (bs s) hl r [q] hr28 hq
  have hbt : bt (s ++ ⟨#[c, d]⟩) 0 = bt s 0 := by
    have e1 := bt_nat (s ++ ⟨#[c, d]⟩) 0 (by rw [hsz]; omega)
    have e2 := bt_nat s 0 (by omega)
    rw [show ((0 : Nat) : Int) = 0 from rfl] at e1 e2
    rw [e1, e2]
    simp only [hb]
    rw [List.getElem_append_left]
  refine ⟨⟨by omega, by omega, by rw [hbt]; exact v3, by rw [hb, ht]; rfl⟩, ?_⟩
  unfold toks
  rw [hb, ht, hr]; rfl
theorem kc_app (x : List S66) (q : S66) (i : Nat) (hi : i < x.length) : kc (x ++ [q]) x i = 0 := by
  have hg : gv (x ++ [q]) i = gv x i := by
    unfold gv
    rw [List.getD_eq_getElem?_getD, List.getD_eq_getElem?_getD, List.getElem?_append_left hi]
  have hr : rk (x ++ [q]) i = rk x i := by
    unfold rk
    rw [hg, if_neg (show ¬ (x ++ [q]).length ≤ i by rw [List.length_append]; omega), if_neg (show ¬ x.length ≤ i by omega)]
  have := kc_refl x i
  unfold kc at this ⊢
  rw [hr, hg]
  exact this
theorem cmpN_app (x : List S66) (q : S66) : ∀ m i, i ≤ x.length → x.length < i + m → cmpN (x ++ [q]) x m i = kc (x ++ [q]) x x.length ∨ kc (x ++ [q]) x x.length = 0
  | 0, i, h1, h2 => by omega
  | m + 1, i, h1, h2 => by
    rw [cmpN]
    by_cases h : i < x.length
    · rw [if_pos (kc_app x q i h)]
      exact cmpN_app x q m (i + 1) (by omega) (by omega)
    · obtain rfl : i = x.length := by omega
      by_cases h0 : kc (x ++ [q]) x x.length = 0
      · exact .inr h0
      · rw [if_neg h0]; exact .inl rfl
theorem kc_last (x : List S66) (q : S66) : kc (x ++ [q]) x x.length = if bs q.f1 = [] then 1 else -1 := by
  have hg : gv (x ++ [q]) x.length = q := by
    unfold gv
    rw [List.getD_eq_getElem?_getD, List.getElem?_append_right (Nat.le_refl _), Nat.sub_self]; rfl
  have r2 : rk x x.length = 1 := by unfold rk; rw [if_pos (Nat.le_refl _)]
  have r1 : rk (x ++ [q]) x.length = if bs q.f1 = [] then 2 else 0 := by
    unfold rk
    rw [hg, if_neg (by simp)]
  unfold kc
  rw [r1, r2]
  split <;> rfl
end Go.Proofs.YtgknoemegejlkaaDoor.P
end

section
set_option linter.unusedVariables false
set_option linter.unusedSimpArgs false
namespace Go.Proofs.YtgknoemegejlkaaDoor.P
open Go.RowKit Go.Proofs.YtgknoemegejlkaaDoorW.PrintWords Go.Proofs.YtgknoemegejlkaaDoorW.PrintLast Go.Proofs.YtgknoemegejlkaaDoorM
theorem bits255 (x : Int) : 0 ≤ Go.bits .and .i64 x 255 ∧ Go.bits .and .i64 x 255 ≤ 255 := by
  unfold Go.bits
  show 0 ≤ IntKind.i64.wrap (((BitVec.ofInt 64 x) &&& (BitVec.ofInt 64 255)).toNat : Int) ∧ IntKind.i64.wrap (((BitVec.ofInt 64 x) &&& (BitVec.ofInt 64 255)).toNat : Int) ≤ 255
  have h : ((BitVec.ofInt 64 x) &&& (BitVec.ofInt 64 255)).toNat ≤ 255 := by
    rw [BitVec.toNat_and]
    exact Nat.and_le_right
  rw [i64_w, wrap64_id (by omega) (by omega)]
  omega
def cur (l : List Int) (i : Int) : Prop := 0 ≤ i ∧ i ≤ (l.length : Int) ∧ (l.length : Int) ≤ 1048576
theorem l1Byte_eq (l : List Int) (i h : Int) (hc : cur l i) : ∃ b i' h', spec_l1Byte.f l i h = some (b, i', h') ∧ 0 ≤ b ∧ b ≤ 255 ∧ cur l i' := by
  obtain ⟨h0, h1, h2⟩ := hc
  unfold spec_l1Byte.f
  by_cases hlt : i < (l.length : Int)
  · rw [if_pos hlt, if_pos h0]
    exact ⟨_, _, _, rfl, (bits255 _).1, (bits255 _).2, by rw [wrap64_id (by omega) (by omega)]; exact ⟨by omega, by omega, h2⟩⟩
  · rw [if_neg hlt]
    exact ⟨_, _, _, rfl, (bits255 _).1, (bits255 _).2, h0, h1, h2⟩
theorem l1Below_eq (l : List Int) (i h n : Int) (hc : cur l i) (h0 : 0 < n) (h1 : n ≤ 256) : ∃ b i' h', spec_l1Below.f l i h n = some (b, i', h') ∧ 0 ≤ b ∧ b < n ∧ cur l i' := by
  obtain ⟨b, i', h', e, hb0, hb1, hc'⟩ := l1Byte_eq l i h hc
  unfold spec_l1Below.f
  rw [if_neg (by omega), if_pos h1, e, Option.bind_some, if_neg (by omega)]
  refine ⟨_, _, _, rfl, ?_, ?_, hc'⟩
  · exact Int.tmod_nonneg _ hb0
  · exact Int.tmod_lt_of_pos _ h0
theorem l1Once_eq (l : List Int) (i h n : Int) (hc : cur l i) (h0 : 0 < n) (h1 : n ≤ 256) : ∃ b i' h', spec_l1Once.f l i h n = some (b, i', h') ∧ cur l i' := by
  obtain ⟨b, i', h', e, _, _, hc'⟩ := l1Below_eq l i h n hc h0 h1
  unfold spec_l1Once.f
  rw [e, Option.bind_some]
  exact ⟨_, _, _, rfl, hc'⟩
theorem l1New_l0 (l : List Int) (hl : (l.length : Int) ≤ 1048576) : ∀ (n k i : Nat) (h : Int), n + 1 ≤ k → i + n = l.length → ∃ h', spec_l1New.l0 k l h (i : Int) = some (l, 0, h') := by
  intro n
  induction n with
  | zero =>
    intro k i h hk hi
    obtain ⟨k, rfl⟩ : ∃ k', k = k' + 1 := ⟨k - 1, by omega⟩
    rw [spec_l1New.l0, if_neg (by omega)]
    exact ⟨_, rfl⟩
  | succ n ih =>
    intro k i h hk hi
    obtain ⟨k, rfl⟩ : ∃ k', k = k' + 1 := ⟨k - 1, by omega⟩
    have hw : wrap64 ((i : Int) + 1) = ((i + 1 : Nat) : Int) := by rw [wrap64_id (by omega) (by omega)]; omega
    rw [spec_l1New.l0, if_pos (by omega), if_pos (by omega), hw]
    exact ih k (i + 1) _ (by omega) (by omega)
theorem l1New_eq (l : List Int) (hl : (l.length : Int) ≤ 1048576) (k : Nat) (hk : l.length + 1 ≤ k) : ∃ h, spec_l1New.f k l = some (l, 0, h) ∧ cur l 0 := by
  obtain ⟨h, e⟩ := l1New_l0 l hl l.length k 0 (wrap64 (57731 + (l.length : Int))) hk (by omega)
  exact ⟨h, e, by omega, by omega, hl⟩
end Go.Proofs.YtgknoemegejlkaaDoor.P
end

section
set_option linter.unusedVariables false
set_option linter.unusedSimpArgs false
namespace Go.Proofs.YtgknoemegejlkaaDoor.P
open Go.RowKit Go.Proofs.YtgknoemegejlkaaDoorW.PrintWords Go.Proofs.YtgknoemegejlkaaDoorW.PrintLast Go.Proofs.YtgknoemegejlkaaDoorM
theorem rdOf_size (xs : List ByteArray) (M : Nat) (h : ∀ x ∈ xs, x.size ≤ M) (i : Int) : (rdOf ByteArray.empty xs i).size ≤ M := by
  unfold rdOf
  rw [List.getD_eq_getElem?_getD]
  cases e : xs[i.toNat]? with
  | none => exact Nat.zero_le _
  | some v => exact h v (List.mem_of_getElem? e)
theorem l2Int_eq (k : Nat) (a : Int) (h0 : 0 ≤ a) (h1 : a ≤ 9) : ∃ s, spec_l2Int.f (k + 1) a = some s ∧ s.size = 1 := by
  unfold spec_l2Int.f
  rw [spec_l2Int.l0, if_neg (by omega), Option.bind_some]
  have hs : (strOfNums [(wrap64 (48 + a)) % 256] ++ (⟨#[]⟩ : ByteArray)).size = 1 := by rw [ByteArray.size_append]; rfl
  rw [if_pos (show (strOfNums [(wrap64 (48 + a)) % 256]).size + (⟨#[]⟩ : ByteArray).size ≤ 9223372036854775807 by rw [← ByteArray.size_append, hs]; omega)]
  exact ⟨_, rfl, hs⟩
theorem draw_j1 (l : List Int) (k : Nat) (x : ByteArray) (i h : Int) (hc : cur l i) (hx : x.size ≤ 40) : ∃ s i' h', spec_l6Draw.j1 (k + 1) x l i h = some (s, i', h') ∧ s.size ≤ 40 ∧ cur l i' := by
  obtain ⟨b, i1, h1, e, hc1⟩ := l1Once_eq l i h 30 hc (by omega) (by omega)
  rw [spec_l6Draw.j1, e, Option.bind_some]
  cases b with
  | false => exact ⟨_, _, _, rfl, hx, hc1⟩
  | true =>
    obtain ⟨b2, i2, h2, e2, b0, bn, hc2⟩ := l1Below_eq l i1 h1 6 hc1 (by omega) (by omega)
    simp only [if_true]
    rw [Option.bind_some, e2, Option.bind_some, if_pos b0, if_pos (by simpa using bn)]
    exact ⟨_, _, _, rfl, rdOf_size _ 40 (by simp only [List.mem_cons, List.not_mem_nil, or_false]; rintro x (rfl | rfl | rfl | rfl | rfl | rfl) <;> decide) _, hc2⟩
theorem draw_l0 (l : List Int) : ∀ (n k : Nat) (x : ByteArray) (i h : Int), cur l i → x.size + 2 * n ≤ 20 → n + 3 ≤ k → ∃ s i' h', spec_l6Draw.l0 k x (n : Int) l i h = some (s, i', h') ∧ s.size ≤ 40 ∧ cur l i' := by
  intro n
  induction n with
  | zero =>
    intro k x i h hc hx hk
    obtain ⟨k, rfl⟩ : ∃ k', k = k' + 2 := ⟨k - 2, by omega⟩
    obtain ⟨b, i1, h1, e, hc1⟩ := l1Once_eq l i h 4 hc (by omega) (by omega)
    rw [spec_l6Draw.l0, if_neg (by omega), e, Option.bind_some]
    cases b with
    | false => exact draw_j1 l k x i1 h1 hc1 (by omega)
    | true =>
      obtain ⟨b2, i2, h2, e2, b0, bn, hc2⟩ := l1Below_eq l i1 h1 6 hc1 (by omega) (by omega)
      simp only [if_true]
      rw [Option.bind_some, e2, Option.bind_some, if_pos b0, if_pos (by simpa using bn)]
      have hz := rdOf_size [(⟨#[45, 114, 99, 49]⟩ : ByteArray), (⟨#[97]⟩ : ByteArray), (⟨#[98, 101, 116, 97, 46, 50]⟩ : ByteArray), (⟨#[45]⟩ : ByteArray), (⟨#[46]⟩ : ByteArray), (⟨#[114, 99]⟩ : ByteArray)] 6 (by simp only [List.mem_cons, List.not_mem_nil, or_false]; rintro x (rfl | rfl | rfl | rfl | rfl | rfl) <;> decide) b2
      rw [if_pos (by simp only; omega)]
      exact draw_j1 l k _ i2 h2 hc2 (by rw [ByteArray.size_append]; simp only; omega)
  | succ n ih =>
    intro k x i h hc hx hk
    obtain ⟨k, rfl⟩ : ∃ k', k = k' + 2 := ⟨k - 2, by omega⟩
    obtain ⟨b1, i1, h1, e1, p0, p1, hc1⟩ := l1Below_eq l i h 4 hc (by omega) (by omega)
    obtain ⟨b2, i2, h2, e2, q0, q1, hc2⟩ := l1Below_eq l i1 h1 4 hc1 (by omega) (by omega)
    obtain ⟨s, es, hs⟩ := l2Int_eq k b2 q0 (by omega)
    have hz := rdOf_size [(⟨#[46]⟩ : ByteArray), (⟨#[46]⟩ : ByteArray), (⟨#[45]⟩ : ByteArray), (⟨#[46]⟩ : ByteArray)] 1 (by simp only [List.mem_cons, List.not_mem_nil, or_false]; rintro x (rfl | rfl | rfl | rfl) <;> decide) b1
    have hw : wrap64 (((n + 1 : Nat) : Int) - 1) = (n : Int) := by rw [wrap64_id (by omega) (by omega)]; omega
    rw [spec_l6Draw.l0, if_pos (by omega), Option.bind_some, e1, Option.bind_some, if_pos p0, if_pos (by simpa using p1), if_pos (by simp only; omega), e2, Option.bind_some, es, Option.bind_some,
      if_pos (by rw [ByteArray.size_append]; simp only; omega), hw]
    exact ih (k + 1) _ i2 h2 hc2 (by rw [ByteArray.size_append, ByteArray.size_append]; simp only; omega) (by omega)
theorem draw_eq (l : List Int) (k : Nat) (i h : Int) (hc : cur l i) (hk : 10 ≤ k) : ∃ s i' h', spec_l6Draw.f k l i h = some (s, i', h') ∧ s.size ≤ 40 ∧ cur l i' := by
  obtain ⟨k, rfl⟩ : ∃ k', k = k' + 1 := ⟨k - 1, by omega⟩
  obtain ⟨b1, i1, h1, e1, p0, p1, hc1⟩ := l1Below_eq l i h 4 hc (by omega) (by omega)
  obtain ⟨b2, i2, h2, e2, q0, q1, hc2⟩ := l1Below_eq l i1 h1 4 hc1 (by omega) (by omega)
  obtain ⟨s, es, hs⟩ := l2Int_eq k b1 p0 (by omega)
  unfold spec_l6Draw.f
  rw [e1, Option.bind_some, es, Option.bind_some, e2, Option.bind_some]
  obtain ⟨n, rfl⟩ : ∃ n : Nat, b2 = (n : Int) := ⟨b2.toNat, by omega⟩
  exact draw_l0 l n (k + 1) s i2 h2 hc2 (by omega) (by omega)
theorem drawCompare_eq (l : List Int) (hl : (l.length : Int) ≤ 1048576) (k : Nat) (hk : l.length + 10 ≤ k) : ∃ a b, spec_DrawCompareVersions.f k l = some (a, b) := by
  obtain ⟨h0, e0, c0⟩ := l1New_eq l hl k (by omega)
  obtain ⟨a, i1, h1, e1, z1, c1⟩ := draw_eq l k 0 h0 c0 (by omega)
  obtain ⟨b, i2, h2, e2, z2, c2⟩ := draw_eq l k i1 h1 c1 (by omega)
  obtain ⟨o, i3, h3, e3, c3⟩ := l1Once_eq l i2 h2 4 c2 (by omega) (by omega)
  unfold spec_DrawCompareVersions.f
  rw [e0, Option.bind_some, e1, Option.bind_some, e2, Option.bind_some, e3, Option.bind_some]
  cases o with
  | false => exact ⟨_, _, rfl⟩
  | true =>
    obtain ⟨b4, i4, h4, e4, p0, p1, _⟩ := l1Below_eq l i3 h3 4 c3 (by omega) (by omega)
    have hz := rdOf_size [(⟨#[46, 48]⟩ : ByteArray), (⟨#[45, 114, 99]⟩ : ByteArray), (⟨#[97]⟩ : ByteArray), (⟨#[]⟩ : ByteArray)] 3 (by simp only [List.mem_cons, List.not_mem_nil, or_false]; rintro x (rfl | rfl | rfl | rfl) <;> decide) b4
    simp only [if_true]
    rw [Option.bind_some, e4, Option.bind_some, if_pos p0, if_pos (by simpa using p1), if_pos (by simp only; omega)]
    exact ⟨_, _, rfl⟩
theorem verOk_size {s : ByteArray} (h : verOk s = true) : s.size ≤ 30 := by
  unfold verOk at h
  simp only [Bool.and_eq_true, decide_eq_true_iff] at h
  exact h.2.1
theorem cv_ok {a b : ByteArray} (ha : verOk a = true) (hb : verOk b = true) (k : Nat) (hk : 2001 ≤ k) : impl_CompareVersions.f k a b = some (vc a b) := by
  rw [CompareVersions_eq a b k hk, if_pos ⟨ha, hb⟩]
theorem vc_range (a b : ByteArray) : vc a b = -1 ∨ vc a b = 0 ∨ vc a b = 1 := cmpN_range _ _ _ _
theorem vc_anti (a b : ByteArray) : vc b a = - vc a b := cmpN_anti _ _ _ _
theorem vc_refl (a : ByteArray) : vc a a = 0 := cmpN_refl _ _ _
theorem vc_trans (a b c : ByteArray) (h1 : vc a b ≤ 0) (h2 : vc b c ≤ 0) : vc a c ≤ 0 ∧ (vc a b = 0 → vc b c = 0 → vc a c = 0) := cmpN_trans _ _ _ _ _ h1 h2
theorem vc_more (a : ByteArray) (c d : UInt8) (q : S66) (h1 : isDb c = false) (h2 : isLb c = false) (hq : tok 2 [c, d] = some [q]) (hv : verOk a = true) (hs : a.size + 2 ≤ 30) :
    verOk (a ++ ⟨#[c, d]⟩) = true ∧ vc (a ++ ⟨#[c, d]⟩) a = if bs q.f1 = [] then 1 else -1 := by
  obtain ⟨g1, g2⟩ := ver_app a c d q h1 h2 hq hv hs
  refine ⟨g1, ?_⟩
  have hl := toks_length hv
  have hk := kc_last (toks a) q
  unfold vc
  rw [g2, ← hk]
  rcases cmpN_app (toks a) q 64 0 (by omega) (by omega) with h | h
  · exact h
  · rw [hk] at h
    split at h <;> cases h
theorem law_j4 (k : Nat) (a : ByteArray) (ha : verOk a = true) (hk : 2002 ≤ k) : laws_FnVersionOrder.j4 k a false = some true := by
  obtain ⟨k, rfl⟩ : ∃ k', k = k' + 1 := ⟨k - 1, by omega⟩
  have hs := verOk_size ha
  have hw : wrap64 ((a.size : Int) + 2) = (a.size : Int) + 2 := wrap64_id (by omega) (by omega)
  rw [laws_FnVersionOrder.j4, if_neg (by decide), hw]
  clear hw
  by_cases h : (a.size : Int) + 2 > 30
  · rw [if_pos h]
  · have g1 := vc_more a 46 48 ⟨0, ⟨#[]⟩⟩ (by decide) (by decide) rfl ha (by omega)
    have g2 := vc_more a 45 97 ⟨0, ⟨#[97]⟩⟩ (by decide) (by decide) rfl ha (by omega)
    have v1 : vc (a ++ ⟨#[46, 48]⟩) a = 1 := g1.2
    have v2 : vc (a ++ ⟨#[45, 97]⟩) a = -1 := g2.2
    rw [if_neg h, if_pos (by omega), cv_ok g1.1 ha k (by omega), cv_ok g2.1 ha k (by omega), v1, v2]
    rfl
theorem law_j3 (k : Nat) (a b c : ByteArray) (ha : verOk a = true) (hb : verOk b = true) (hc : verOk c = true) (hk : 2003 ≤ k) : laws_FnVersionOrder.j3 k a b c (vc a b) false = some true := by
  obtain ⟨k, rfl⟩ : ∃ k', k = k' + 1 := ⟨k - 1, by omega⟩
  have h4 := law_j4 k a ha (by omega)
  have ht := vc_trans a b c
  rw [laws_FnVersionOrder.j3, if_neg (by decide), cv_ok hb hc k (by omega)]
  simp only [cv_ok ha hc k (by omega), Option.bind_some]
  have hz : vc a b = 0 → vc b c = 0 → (vc a c != 0) = false := fun h1 h2 => by
    rw [(ht (by omega) (by omega)).2 h1 h2]; rfl
  by_cases h1 : vc a b ≤ 0
  · rw [if_pos h1]
    by_cases h2 : vc b c ≤ 0
    · have := (ht h1 h2).1
      rw [if_pos h2, if_neg (by omega)]
      by_cases h3 : vc a b = 0
      · rw [if_pos h3]
        by_cases h5 : vc b c = 0
        · rw [if_pos h5, hz h3 h5, h4]
        · rw [if_neg h5, h4]
      · rw [if_neg h3, h4]
    · rw [if_neg h2]
      by_cases h3 : vc a b = 0
      · rw [if_pos h3, if_neg (by omega), h4]
      · rw [if_neg h3, h4]
  · rw [if_neg h1, if_neg (by omega), h4]
theorem law_j2 (k : Nat) (a b c : ByteArray) (ha : verOk a = true) (hb : verOk b = true) (hc : verOk c = true) (hk : 2004 ≤ k) : laws_FnVersionOrder.j2 k a b c false = some true := by
  obtain ⟨k, rfl⟩ : ∃ k', k = k' + 1 := ⟨k - 1, by omega⟩
  have h3 := law_j3 k a b c ha hb hc (by omega)
  have hr := vc_range a b
  have hw : wrap64 (-vc b a) = vc a b := by rw [vc_anti a b, wrap64_id (by omega) (by omega)]; omega
  rw [laws_FnVersionOrder.j2, if_neg (by decide), cv_ok ha hb k (by omega), Option.bind_some, cv_ok hb ha k (by omega), Option.bind_some, hw, if_pos rfl, cv_ok ha ha k (by omega), Option.bind_some, vc_refl]
  exact h3
theorem law_j1 (k : Nat) (a b c : ByteArray) (hk : 4200 ≤ k) : laws_FnVersionOrder.j1 k a b c false = some true := by
  obtain ⟨k, rfl⟩ : ∃ k', k = k' + 1 := ⟨k - 1, by omega⟩
  have hend : laws_FnVersionOrder.j2 k a b c true = some true := by
    obtain ⟨k, rfl⟩ : ∃ k', k = k' + 1 := ⟨k - 1, by omega⟩
    rw [laws_FnVersionOrder.j2, if_pos rfl]
  rw [laws_FnVersionOrder.j1, if_neg (by decide), spec_VersionOk_eq a k (by omega), Option.bind_some]
  cases ha : verOk a with
  | false => exact hend
  | true =>
    rw [if_pos rfl, spec_VersionOk_eq b k (by omega), Option.bind_some]
    cases hb : verOk b with
    | false => exact hend
    | true =>
      rw [if_pos rfl, spec_VersionOk_eq c k (by omega), Option.bind_some]
      cases hc : verOk c with
      | false => exact hend
      | true => exact law_j2 k a b c ha hb hc (by omega)
theorem const_one (k : Nat) (hk : 2001 ≤ k) : impl_CompareVersions.f k (⟨#[49, 46, 50]⟩ : ByteArray) (⟨#[49, 46, 49, 48]⟩ : ByteArray) = some (-1) := by
  rw [CompareVersions_eq _ _ k hk]
  exact congrArg some (show (if verOk (⟨#[49, 46, 50]⟩ : ByteArray) = true ∧ verOk (⟨#[49, 46, 49, 48]⟩ : ByteArray) = true then vc (⟨#[49, 46, 50]⟩ : ByteArray) (⟨#[49, 46, 49, 48]⟩ : ByteArray) else 2) = -1 by decide +kernel)
theorem const_two (k : Nat) (hk : 2001 ≤ k) : impl_CompareVersions.f k (⟨#[]⟩ : ByteArray) (⟨#[49]⟩ : ByteArray) = some 2 := by
  rw [CompareVersions_eq _ _ k hk]
  exact congrArg some (show (if verOk (⟨#[]⟩ : ByteArray) = true ∧ verOk (⟨#[49]⟩ : ByteArray) = true then vc (⟨#[]⟩ : ByteArray) (⟨#[49]⟩ : ByteArray) else 2) = 2 by decide +kernel)
theorem FnVersionOrder_pure (l0 l1 : List Int) : ∃ k, laws_FnVersionOrder.f k l0 l1 = some true := by
  refine ⟨l0.length + l1.length + 5000 + 1, ?_⟩
  have hend : laws_FnVersionOrder.j0 (l0.length + l1.length + 5000 + 1) l0 l1 true = some true := by rw [laws_FnVersionOrder.j0, if_pos rfl]
  unfold laws_FnVersionOrder.f laws_big.f
  rw [Option.bind_some, Option.bind_some]
  by_cases h0 : (l0.length : Int) > 1048576
  · rw [if_pos (by simpa using h0)]; exact hend
  · rw [if_neg (by simpa using h0)]
    by_cases h1 : (l1.length : Int) > 1048576
    · rw [decide_eq_true h1]; exact hend
    · obtain ⟨a, b, e0⟩ := drawCompare_eq l0 (by omega) (l0.length + l1.length + 5000) (by omega)
      obtain ⟨c, d, e1⟩ := drawCompare_eq l1 (by omega) (l0.length + l1.length + 5000) (by omega)
      rw [decide_eq_false h1, laws_FnVersionOrder.j0, if_neg (by decide), e0, Option.bind_some, e1, Option.bind_some, const_one _ (by omega), Option.bind_some, if_pos rfl, const_two _ (by omega), Option.bind_some]
      exact law_j1 _ a b c (by omega)
end Go.Proofs.YtgknoemegejlkaaDoor.P
end

section
namespace Go.Proofs.YtgknoemegejlkaaDoor.fnVersionOrder
open Go.ChangeShapes Go.WideShapes Go.ChangeAt Go.RowKit Go.Proofs.YtgknoemegejlkaaDoorM
set_option linter.unusedVariables false
set_option maxRecDepth 100000
theorem own : ownKnob Tryd.prog.godebug = none := by kernel_rfl
theorem laidOut : laidOutB Tryd.prog = true := by kernel_rfl
theorem contract (H : Type) (enc : TypeId × Value → H) (W : World) (base : Nat) (args : Array Value) (ds gs : List (DataW H)) (before : List MemPlace)
    (hval0 : ∀ (j : Nat) t v, Tryd.f3.params[j]? = some t → args[j]? = some v → Value.okWide Tryd.prog W .any base t v)
    (hW : DataW.Whole enc Tryd.prog Tryd.f3.params.toList Rows.fnVersionOrderSpec.vars false W args.toList ds gs before) (hS : W.ShapedOpen Tryd.prog) :
    Calls Tryd.prog 3 args W fun e W' => ∃ v, e = .returned v ∧ Rows.fnVersionOrderSpec.post enc Tryd.prog Tryd.f3 false true false false W args v W' := by
  have hval := hval0
  have hW' := hW
  obtain ⟨p, q, hA0, hV, rfl, hfz, hnd⟩ := hW
  have hA : DataW.TrodAll enc Tryd.prog W 0 (fun _ => true) true Tryd.f3.params.toList args.toList ds p := hA0
  rw [Tryd.params3] at hA hval
  obtain ⟨v0, vs0, d0, ds0, p0, q0, hargs, rfl, rfl, h0, r0⟩ := trodAll_cons hA
  obtain ⟨v1, vs1, d1, ds1, p1, q1, rfl, rfl, rfl, h1, r1⟩ := trodAll_cons r0
  obtain ⟨rfl, rfl, rfl⟩ := trodAll_nil r1
  obtain rfl : args = #[v0, v1] := by cases args; simp_all
  obtain ⟨rfl, rfl⟩ := trodVars_none hV
  have k0 := h0
  have lt0 : ∀ x ∈ p0, x.block < W.heap.size := by obtain ⟨m, hm⟩ := k0; exact DataW.trod_lt m _ _ _ hm
  obtain ⟨l0, A0, c0, rfl, hc0, hr0, hl0, hg0⟩ := Opn.argSlice Tryd.underlying22 (by kernel_rfl) (Opn.int Tryd.underlying5) (hval 0 22 v0 rfl rfl) h0
  have k1 := h1
  have lt1 : ∀ x ∈ p1, x.block < W.heap.size := by obtain ⟨m, hm⟩ := k1; exact DataW.trod_lt m _ _ _ hm
  obtain ⟨l1, A1, c1, rfl, hc1, hr1, hl1, hg1⟩ := Opn.argSlice Tryd.underlying22 (by kernel_rfl) (Opn.int Tryd.underlying5) (hval 1 22 v1 rfl rfl) h1
  clear hA0 hval0
  obtain ⟨k, hk⟩ := P.FnVersionOrder_pure l0 l1 
  refine (P.laws_FnVersionOrder.calls k A0 c0 l0 A1 c1 l1 true W hr0 hc0 hr1 hc1 hk).mono fun e W' ⟨he, bel⟩ => ?_
  subst he
  exact ⟨_, rfl, _, _, _, [], _, [], hW', trodAll_mk1 (shut_bool Tryd.underlying4 _), (trodAll_cons_mk (Below.trod laidOut (by kernel_rfl) (of_decide_eq_true (by kernel_rfl)) k0 bel lt0) (trodAll_cons_mk (Below.trod laidOut (by kernel_rfl) (of_decide_eq_true (by kernel_rfl)) k1 bel lt1) trodAll_mk0)), rfl, bel.frame _, fun h => by cases h⟩
noncomputable def low : Nat := (World.holding Tryd.prog default ⟨#[], #[], []⟩).heap.size
noncomputable def laidWorld (os : Os) : World :=
  { World.holding Tryd.prog os ⟨#[.cells #[.string ⟨#[118, 97, 108, 117, 101, 32, 111, 117, 116, 32, 111, 102, 32, 114, 97, 110, 103, 101]⟩] 166, .cells #[.string ⟨#[105, 110, 118, 97, 108, 105, 100, 32, 115, 121, 110, 116, 97, 120]⟩] 166], #[], []⟩ with heap := (Array.modify (Array.modify (Array.modify (Array.modify (Array.modify (World.holding Tryd.prog os ⟨#[.cells #[.string ⟨#[118, 97, 108, 117, 101, 32, 111, 117, 116, 32, 111, 102, 32, 114, 97, 110, 103, 101]⟩] 166, .cells #[.string ⟨#[105, 110, 118, 97, 108, 105, 100, 32, 115, 121, 110, 116, 97, 120]⟩] 166], #[], []⟩).heap 6 (fun o => match o with
      | .cells _ t frozen => .cells #[(.int .u8 0), (.int .u8 1), (.int .u8 28), (.int .u8 2), (.int .u8 29), (.int .u8 14), (.int .u8 24), (.int .u8 3), (.int .u8 30), (.int .u8 22), (.int .u8 20), (.int .u8 15), (.int .u8 25), (.int .u8 17), (.int .u8 4), (.int .u8 8), (.int .u8 31), (.int .u8 27), (.int .u8 13), (.int .u8 23), (.int .u8 21), (.int .u8 19), (.int .u8 16), (.int .u8 7), (.int .u8 26), (.int .u8 12), (.int .u8 18), (.int .u8 6), (.int .u8 11), (.int .u8 5), (.int .u8 10), (.int .u8 9)] t frozen
      | o => o)) 7 (fun o => match o with
      | .cells _ t frozen => .cells #[(.int .u8 0), (.int .u8 1), (.int .u8 56), (.int .u8 2), (.int .u8 57), (.int .u8 49), (.int .u8 28), (.int .u8 3), (.int .u8 61), (.int .u8 58), (.int .u8 42), (.int .u8 50), (.int .u8 38), (.int .u8 29), (.int .u8 17), (.int .u8 4), (.int .u8 62), (.int .u8 47), (.int .u8 59), (.int .u8 36), (.int .u8 45), (.int .u8 43), (.int .u8 51), (.int .u8 22), (.int .u8 53), (.int .u8 39), (.int .u8 33), (.int .u8 30), (.int .u8 24), (.int .u8 18), (.int .u8 12), (.int .u8 5), (.int .u8 63), (.int .u8 55), (.int .u8 48), (.int .u8 27), (.int .u8 60), (.int .u8 41), (.int .u8 37), (.int .u8 16), (.int .u8 46), (.int .u8 35), (.int .u8 44), (.int .u8 21), (.int .u8 52), (.int .u8 32), (.int .u8 23), (.int .u8 11), (.int .u8 54), (.int .u8 26), (.int .u8 40), (.int .u8 15), (.int .u8 34), (.int .u8 20), (.int .u8 31), (.int .u8 10), (.int .u8 25), (.int .u8 14), (.int .u8 19), (.int .u8 9), (.int .u8 13), (.int .u8 8), (.int .u8 7), (.int .u8 6)] t frozen
      | o => o)) 5 (fun o => match o with
      | .cells _ t frozen => .cells #[(.int .u64 1), (.int .u64 10), (.int .u64 100), (.int .u64 1000), (.int .u64 10000), (.int .u64 100000), (.int .u64 1000000), (.int .u64 10000000), (.int .u64 100000000), (.int .u64 1000000000), (.int .u64 10000000000), (.int .u64 100000000000), (.int .u64 1000000000000), (.int .u64 10000000000000), (.int .u64 100000000000000), (.int .u64 1000000000000000), (.int .u64 10000000000000000), (.int .u64 100000000000000000), (.int .u64 1000000000000000000), (.int .u64 10000000000000000000)] t frozen
      | o => o)) 2 (fun o => match o with
      | .cells _ t frozen => .cells #[.iface 164 (.pointer (some ⟨low + 0, 0, none⟩))] t frozen
      | o => o)) 1 (fun o => match o with
      | .cells _ t frozen => .cells #[.iface 164 (.pointer (some ⟨low + 1, 0, none⟩))] t frozen
      | o => o)) }
theorem laid_met (os : Os) : laidMet Tryd.prog Rows.fnVersionOrderRow.laid ((laidWorld os).forCall (fun _ _ => 0) ⟨#[], #[.slice none 0 0, .slice none 0 0], []⟩).memory :=
  laidMet_of_run' 8 (by kernel_rfl) (by kernel_rfl)
theorem reads (os : Os) {H : Type} (enc : TypeId × Value → H) : ∃ places, DataW.whole enc Tryd.prog ((laidWorld os).forCall (fun _ _ => 0) ⟨#[], #[.slice none 0 0, .slice none 0 0], []⟩).memory Tryd.f3.params.toList Rows.fnVersionOrderSpec.vars false (#[.slice none 0 0, .slice none 0 0] : Array Value).toList 8 = some ([.nil, .nil], [], places) :=
  ⟨[], by kernel_rfl⟩
theorem lifted (os : Os) (started : os.Started) (H : Type) (enc : TypeId × Value → H) (F : Stop.Interp) :
    ReturnsInHanded {} Tryd.checked os 3 .any ((OpenSpec.ofChange Rows.fnVersionOrderSpec).preRow enc Tryd.prog Tryd.f3 Rows.fnVersionOrderRow.domain false Rows.fnVersionOrderRow.laid) (((OpenSpec.ofChange Rows.fnVersionOrderSpec).at F).post enc Tryd.prog Tryd.f3 false true false false) := by
  obtain ⟨places, hx⟩ := reads os enc
  refine returnsInHanded_of_row (C := Tryd.checked) (s := OpenSpec.ofChange Rows.fnVersionOrderSpec) own started (by kernel_rfl) Tryd.func3
    (witness_row_at (enc := enc) (C := Tryd.checked) false (laidWorld os) #[.slice none 0 0, .slice none 0 0] rfl (by kernel_rfl) (by kernel_rfl) (by kernel_rfl)
      (OpenSpec.preRow_of_cond 8 hx (by kernel_rfl) (fun k hk => by cases hk) (by kernel_rfl) (laid_met os))) ?_
  intro W base args ds gs before hval hW _ _ _ hL hS _
  exact contract H enc W base args ds gs before hval hW hS
theorem said : Rows.FnVersionOrderSaid :=
  OpenClaim.holds_of_cond 3 Tryd.f3 rfl rfl rfl rfl rfl rfl rfl ⟨rfl, rfl, rfl, rfl, rfl⟩ rfl rfl rfl rfl rfl (by kernel_rfl) Tryd.func3 (by kernel_rfl)
    (of_decide_eq_true (by kernel_rfl)) (by unfold Func.isWrapper; first | (rw [if_pos (by decide +kernel)]; kernel_rfl) | (rw [if_neg (by decide +kernel)]; exact ⟨rfl, rfl⟩))
    (fun os started H enc _ F => by rw [OpenClaim.pre_eq_preRow]; exact lifted os started H enc F)
theorem plain (f : FuncId) (fn : Func) (hf : Tryd.pinned.checked.prog.funcNamed "loop.example/g00023/laws.FnVersionOrder" = some f) (hfn : Tryd.pinned.checked.prog.funcs[f]? = some fn) :
    true = Tryd.pinned.checked.prog.looks [] ∧ ∀ (j : Nat) t, fn.params[j]? = some t → Tryd.pinned.checked.prog.wantsStandIn t = false := by
  obtain rfl : f = 3 := Option.some.inj ((show Tryd.prog.funcNamed "loop.example/g00023/laws.FnVersionOrder" = some 3 by kernel_rfl).symm.trans hf) |>.symm
  obtain rfl : fn = Tryd.f3 := (Option.some.inj (Tryd.func3.symm.trans hfn)).symm
  refine ⟨by kernel_rfl, fun j t ht => ?_⟩
  rw [Tryd.params3] at ht
  have hm := Array.mem_of_getElem? ht
  simp only [List.mem_toArray, List.mem_cons, List.not_mem_nil, or_false] at hm
  rcases hm with rfl | rfl
  · exact (show Tryd.prog.wantsStandIn 22 = false by kernel_rfl)
  · exact (show Tryd.prog.wantsStandIn 22 = false by kernel_rfl)
theorem card : Rows.FnVersionOrderCardSaid :=
  Claim7.holds_tied_plain_at .later [] _ _ _ _ said (fun _ h => by cases h) (by kernel_rfl) (fun _ h => by cases h) fnVersionOrder_row_tie rfl ⟨rfl, rfl⟩ (by kernel_rfl) rfl plain (by kernel_rfl)
#print axioms card
end Go.Proofs.YtgknoemegejlkaaDoor.fnVersionOrder
namespace Go.Proofs.YtgknoemegejlkaaDoor
/-- The card, under a short name, for the claim. -/
theorem fnVersionOrder_card : Rows.FnVersionOrderCardSaid := fnVersionOrder.card
end Go.Proofs.YtgknoemegejlkaaDoor
end
