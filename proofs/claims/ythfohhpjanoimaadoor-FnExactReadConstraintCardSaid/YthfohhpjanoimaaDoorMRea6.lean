/- FnExactReadConstraint: the law's row and its card: its walk, the law over lists, and what the arguments read as, joined. Whatever the arguments: the call returns true, and the arguments read as before. Condition: the listed tables hold what the program's text lays (the card ties that). -/
import Derived.Test.YthfohhpjanoimaaDoorMRea2
import Derived.Test.YthfohhpjanoimaaDoorMRea3
import Derived.Test.YthfohhpjanoimaaDoorMRea4
import Derived.Test.YthfohhpjanoimaaDoorMRea5
import Derived.Test.YthfohhpjanoimaaDoorCards
import Derived.Test.YthfohhpjanoimaaDoorTie
import Derived.WalkKit
import Derived.ProofKit
import Derived.OpenShut
import Derived.ShutString
import Derived.ChangeOld
import Derived.Below
import Derived.Carry
import Derived.Deep.DeepHandedRow
import Derived.Shelf.Vars
import Derived.LaidLaws

section
set_option linter.unusedVariables false
set_option linter.unusedSimpArgs false
namespace Go.Proofs.YthfohhpjanoimaaDoor.P
open Go.RowKit Go.Proofs.YthfohhpjanoimaaDoorW.PrintWords
theorem wrap64_id {n : Int} (h1 : -9223372036854775808 ≤ n) (h2 : n ≤ 9223372036854775807) : wrap64 n = n := by
  unfold wrap64; omega
def bs (s : ByteArray) : List UInt8 := s.data.toList
theorem bs_length (s : ByteArray) : (bs s).length = s.size := data_length s
theorem toList_bs (s : ByteArray) : s.toList = bs s := Lib.toList_data s
theorem bs_inj {a b : ByteArray} (h : bs a = bs b) : a = b := by
  cases a; cases b
  simp only [bs] at h
  congr 1
  exact Array.ext' h
theorem bt_nat (s : ByteArray) (i : Nat) (h : i < s.size) : bt s (i : Int) = (((bs s)[i]'(by rw [bs_length]; exact h)).toNat : Int) := by
  unfold bt
  rw [dif_pos (by simpa using h)]
  simp [bs, ByteArray.getElem_eq_getElem_data]
theorem bs_nil {s : ByteArray} : bs s = [] ↔ s.size = 0 := by
  rw [← bs_length]
  exact List.length_eq_zero_iff.symm
theorem bs_extract (s : ByteArray) (a b : Nat) : bs (s.extract a b) = ((bs s).drop a).take (b - a) := Lib.extract_data s a b
theorem bs_upto (s : ByteArray) (b : Nat) : bs (s.extract 0 b) = (bs s).take b := by rw [bs_extract]; simp
end Go.Proofs.YthfohhpjanoimaaDoor.P
end

section
set_option linter.unusedVariables false
set_option linter.unusedSimpArgs false
namespace Go.Proofs.YthfohhpjanoimaaDoor.P
open Go.RowKit Go.Proofs.YthfohhpjanoimaaDoorW.PrintWords Go.Proofs.YthfohhpjanoimaaDoorM
end Go.Proofs.YthfohhpjanoimaaDoor.P
end

section
set_option linter.unusedVariables false
set_option linter.unusedSimpArgs false
namespace Go.Proofs.YthfohhpjanoimaaDoor.P
open Go.RowKit Go.Proofs.YthfohhpjanoimaaDoorW.PrintWords
def isL (c : Int) : Bool := decide ((97 ≤ c ∧ c ≤ 122) ∨ (65 ≤ c ∧ c ≤ 90))
def isD (c : Int) : Bool := decide (48 ≤ c ∧ c ≤ 57)
theorem impl_letter_eq (c : Int) : impl_letter.f c = some (isL c) := by
  unfold impl_letter.f isL
  repeat' split
  all_goals (congr 1; first | (rw [decide_eq_decide]; omega) | (symm; rw [decide_eq_true_iff]; omega) | (symm; rw [decide_eq_false_iff_not]; omega))
theorem impl_digit_eq (c : Int) : impl_digit.f c = some (isD c) := by
  unfold impl_digit.f isD
  repeat' split
  all_goals (congr 1; first | (rw [decide_eq_decide]; omega) | (symm; rw [decide_eq_true_iff]; omega) | (symm; rw [decide_eq_false_iff_not]; omega))
theorem spec_l1Letter_eq (c : Int) : spec_l1Letter.f c = some (isL c) := by
  unfold spec_l1Letter.f isL
  repeat' split
  all_goals (congr 1; first | (rw [decide_eq_decide]; omega) | (symm; rw [decide_eq_true_iff]; omega) | (symm; rw [decide_eq_false_iff_not]; omega))
theorem spec_l1Digit_eq (c : Int) : spec_l1Digit.f c = some (isD c) := by
  unfold spec_l1Digit.f isD
  repeat' split
  all_goals (congr 1; first | (rw [decide_eq_decide]; omega) | (symm; rw [decide_eq_true_iff]; omega) | (symm; rw [decide_eq_false_iff_not]; omega))
end Go.Proofs.YthfohhpjanoimaaDoor.P
end

section
set_option linter.unusedVariables false
set_option linter.unusedSimpArgs false
namespace Go.Proofs.YthfohhpjanoimaaDoor.P
open Go.RowKit Go.Proofs.YthfohhpjanoimaaDoorW.PrintWords Go.Proofs.YthfohhpjanoimaaDoorW.PrintLast Go.Proofs.YthfohhpjanoimaaDoorM
def isDb (c : UInt8) : Bool := isD (c.toNat : Int)
def isLb (c : UInt8) : Bool := isL (c.toNat : Int)
def numOf : List UInt8 → Nat → Nat
  | [], acc => acc
  | c :: r, acc => numOf r (acc * 10 + (c.toNat - 48))
def tok : Nat → List UInt8 → Option (List S67)
  | _, [] => some []
  | 0, _ :: _ => none
  | f + 1, c :: r =>
    if isDb c then (if ((c :: r).takeWhile isDb).length > 15 then none else (tok f ((c :: r).dropWhile isDb)).map (fun l => ⟨(numOf ((c :: r).takeWhile isDb) 0 : Nat), ⟨#[]⟩⟩ :: l))
    else if isLb c then (tok f ((c :: r).dropWhile isLb)).map (fun l => ⟨0, ⟨((c :: r).takeWhile isLb).toArray⟩⟩ :: l)
    else if c = 46 ∨ c = 45 then tok f r else none
theorem digit_rng {c : UInt8} (h : isDb c = true) : 48 ≤ c.toNat ∧ c.toNat ≤ 57 := by
  unfold isDb isD at h
  have := of_decide_eq_true h
  omega
theorem parseUintM_ok : ∀ (d : List UInt8) (acc n : Nat), (∀ c ∈ d, isDb c = true) → acc < 10 ^ n → n + d.length ≤ 15 → Lib.parseUintM 18446744073709551615 acc d = .ok (numOf d acc) ∧ numOf d acc < 1000000000000000
  | [], acc, n, _, h, hn => ⟨rfl, Nat.lt_of_lt_of_le h (Nat.le_trans (Nat.pow_le_pow_right (by decide) (show n ≤ 15 by simpa using hn)) (by decide))⟩
  | c :: d, acc, n, hd, h, hn => by
    have hc := digit_rng (hd c List.mem_cons_self)
    have h14 : acc < 100000000000000 := Nat.lt_of_lt_of_le h (Nat.le_trans (Nat.pow_le_pow_right (by decide) (show n ≤ 14 by simp at hn; omega)) (by decide))
    have ih := parseUintM_ok d (acc * 10 + (c.toNat - 48)) (n + 1) (fun x hx => hd x (List.mem_cons_of_mem _ hx)) (by rw [Nat.pow_succ]; omega) (by simp at hn ⊢; omega)
    rw [Lib.parseUintM, if_pos hc, if_neg (by omega), if_neg (by omega)]
    exact ih
theorem parseInt_ok (s : ByteArray) (h1 : 1 ≤ s.size) (h2 : s.size ≤ 15) (hd : ∀ c ∈ bs s, isDb c = true) : strconv_ParseInt.f s 10 64 = some (((numOf (bs s) 0 : Nat) : Int), none) := by
  have hl := bs_length s
  unfold strconv_ParseInt.f
  rw [if_pos ⟨rfl, rfl, by omega⟩]
  change (match Lib.parseIntB 64 (bs s) with | .ok v => some (v, none) | _ => none) = _
  generalize bs s = l at hd hl ⊢
  cases l with
  | nil => simp at hl; omega
  | cons c r =>
    obtain ⟨h3, h4⟩ := parseUintM_ok (c :: r) 0 0 hd (by decide) (by omega)
    have hc := digit_rng (hd c List.mem_cons_self)
    have e : Lib.parseIntB 64 (c :: r) = .ok ((numOf (c :: r) 0 : Nat) : Int) := by
      unfold Lib.parseIntB
      simp only []
      rw [if_neg (by omega)]
      unfold Lib.parseUintB
      rw [if_neg (by simp)]
      rw [show (2 ^ 64 - 1 : Nat) = 18446744073709551615 from by decide, h3]
      simp only []
      rw [if_neg (by rintro ⟨_, h⟩; exact absurd (Nat.le_trans (show (2 ^ 63 : Nat) ≤ 2 ^ (64 - 1) from Nat.le_refl _) h) (by omega)), if_neg (by rintro ⟨h, _⟩; omega), if_neg (by omega)]
    rw [e]
theorem tw_step (p : UInt8 → Bool) (l : List UInt8) (j : Nat) (h : j < l.length) : (l.drop j).takeWhile p = if p l[j] = true then l[j] :: (l.drop (j + 1)).takeWhile p else [] := by
  rw [List.drop_eq_getElem_cons h, List.takeWhile_cons]
theorem dw_eq (p : UInt8 → Bool) (l : List UInt8) (j : Nat) : (l.drop j).dropWhile p = l.drop (j + ((l.drop j).takeWhile p).length) := by
  rw [← List.drop_drop]
  conv => rhs; arg 2; rw [← List.takeWhile_append_dropWhile (p := p) (l := l.drop j)]
  rw [List.drop_left]
theorem tw_take (p : UInt8 → Bool) (l : List UInt8) : l.take (l.takeWhile p).length = l.takeWhile p := by
  conv => lhs; arg 2; rw [← List.takeWhile_append_dropWhile (p := p) (l := l)]
  rw [List.take_left]
theorem mem_tw (p : UInt8 → Bool) : ∀ (l : List UInt8) (c : UInt8), c ∈ l.takeWhile p → p c = true
  | [], c, h => by cases h
  | a :: l, c, h => by
    rw [List.takeWhile_cons] at h
    split at h
    · rcases List.mem_cons.1 h with rfl | h
      · assumption
      · exact mem_tw p l c h
    · cases h
theorem tw_len (p : UInt8 → Bool) (l : List UInt8) : (l.takeWhile p).length ≤ l.length := (List.takeWhile_sublist p).length_le
theorem bt_isD (s : ByteArray) (j : Nat) (h : j < s.size) : impl_digit.f (bt s (j : Int)) = some (isDb ((bs s)[j]'(by rw [bs_length]; exact h))) := by
  rw [impl_digit_eq, bt_nat s j h]; rfl
theorem bt_isL (s : ByteArray) (j : Nat) (h : j < s.size) : impl_letter.f (bt s (j : Int)) = some (isLb ((bs s)[j]'(by rw [bs_length]; exact h))) := by
  rw [impl_letter_eq, bt_nat s j h]; rfl
theorem bt_isDs (s : ByteArray) (j : Nat) (h : j < s.size) : spec_l1Digit.f (bt s (j : Int)) = some (isDb ((bs s)[j]'(by rw [bs_length]; exact h))) := by
  rw [spec_l1Digit_eq, bt_nat s j h]; rfl
theorem bt_isLs (s : ByteArray) (j : Nat) (h : j < s.size) : spec_l1Letter.f (bt s (j : Int)) = some (isLb ((bs s)[j]'(by rw [bs_length]; exact h))) := by
  rw [spec_l1Letter_eq, bt_nat s j h]; rfl
theorem impl_parts_l1 (s : ByteArray) (hs : s.size ≤ 30) (acc : List S67) (ha : acc.length ≤ 30) (i : Nat) (v : Int) : ∀ (n j k : Nat) (e : Nat), j + n = s.size → i ≤ j → n + 1 ≤ k → e = j + (((bs s).drop j).takeWhile isDb).length →
    (e - i > 15 → impl_parts.l1 k s acc (i : Int) (j : Int) = some ([], false)) ∧
    (e - i ≤ 15 → strconv_ParseInt.f (s.extract i e) 10 64 = some (v, none) → ∀ r, (∀ k', k ≤ k' + n + 1 → impl_parts.l0 k' s (acc ++ [⟨v, ⟨#[]⟩⟩]) (e : Int) = some r) → impl_parts.l1 k s acc (i : Int) (j : Int) = some r) := by
  intro n
  induction n with
  | zero =>
    intro j k e hj hi hk he
    obtain ⟨k, rfl⟩ : ∃ k', k = k' + 1 := ⟨k - 1, by omega⟩
    rw [List.drop_eq_nil_of_le (by rw [bs_length]; omega)] at he
    simp at he
    subst he
    have hw : wrap64 ((e : Int) - (i : Int)) = (e : Int) - (i : Int) := wrap64_id (by omega) (by omega)
    rw [impl_parts.l1, if_neg (by omega), hw]
    refine ⟨fun h => by rw [if_pos (by omega)], fun h hp r hr => ?_⟩
    rw [if_neg (by omega), if_pos (by omega), if_pos (by omega), if_pos (by omega)]
    simp only [Int.toNat_natCast]
    rw [hp, Option.bind_some, if_pos (by omega)]
    exact hr k (by omega)
  | succ n ih =>
    intro j k e hj hi hk he
    obtain ⟨k, rfl⟩ : ∃ k', k = k' + 1 := ⟨k - 1, by omega⟩
    have hjl : j < (bs s).length := by rw [bs_length]; omega
    rw [tw_step isDb (bs s) j hjl] at he
    rw [impl_parts.l1, if_pos (by omega), if_pos (by omega), bt_isD s j (by omega), Option.bind_some]
    cases hd : isDb (bs s)[j] with
    | true =>
      rw [if_pos hd, List.length_cons] at he
      have hw : wrap64 ((j : Int) + 1) = ((j + 1 : Nat) : Int) := by rw [wrap64_id (by omega) (by omega)]; omega
      rw [if_pos rfl, hw]
      obtain ⟨h1, h2⟩ := ih (j + 1) k e (by omega) (by omega) (by omega) (by omega)
      exact ⟨h1, fun h hp r hr => h2 h hp r (fun k' hk' => hr k' (by omega))⟩
    | false =>
      rw [if_neg (by simp [hd])] at he
      simp at he
      subst he
      have hw : wrap64 ((e : Int) - (i : Int)) = (e : Int) - (i : Int) := wrap64_id (by omega) (by omega)
      rw [if_neg (by decide), hw]
      refine ⟨fun h => by rw [if_pos (by omega)], fun h hp r hr => ?_⟩
      rw [if_neg (by omega), if_pos (by omega), if_pos (by omega), if_pos (by omega)]
      simp only [Int.toNat_natCast]
      rw [hp, Option.bind_some, if_pos (by omega)]
      exact hr k (by omega)
theorem impl_parts_l2 (s : ByteArray) (hs : s.size ≤ 30) (acc : List S67) (ha : acc.length ≤ 30) (i : Nat) : ∀ (n j k : Nat) (e : Nat), j + n = s.size → i ≤ j → n + 1 ≤ k → e = j + (((bs s).drop j).takeWhile isLb).length →
    ∀ r, (∀ k', k ≤ k' + n + 1 → impl_parts.l0 k' s (acc ++ [⟨0, s.extract i e⟩]) (e : Int) = some r) → impl_parts.l2 k s acc (i : Int) (j : Int) = some r := by
  intro n
  induction n with
  | zero =>
    intro j k e hj hi hk he r hr
    obtain ⟨k, rfl⟩ : ∃ k', k = k' + 1 := ⟨k - 1, by omega⟩
    rw [List.drop_eq_nil_of_le (by rw [bs_length]; omega)] at he
    simp at he
    subst he
    rw [impl_parts.l2, if_neg (by omega), if_pos (by omega), if_pos (by omega), if_pos (by omega), if_pos (by omega)]
    exact hr k (by omega)
  | succ n ih =>
    intro j k e hj hi hk he r hr
    obtain ⟨k, rfl⟩ : ∃ k', k = k' + 1 := ⟨k - 1, by omega⟩
    have hjl : j < (bs s).length := by rw [bs_length]; omega
    rw [tw_step isLb (bs s) j hjl] at he
    rw [impl_parts.l2, if_pos (by omega), if_pos (by omega), bt_isL s j (by omega), Option.bind_some]
    cases hd : isLb (bs s)[j] with
    | true =>
      rw [if_pos hd, List.length_cons] at he
      have hw : wrap64 ((j : Int) + 1) = ((j + 1 : Nat) : Int) := by rw [wrap64_id (by omega) (by omega)]; omega
      rw [if_pos rfl, hw]
      exact ih (j + 1) k e (by omega) (by omega) (by omega) (by omega) r (fun k' hk' => hr k' (by omega))
    | false =>
      rw [if_neg (by simp [hd])] at he
      simp at he
      subst he
      rw [if_neg (by decide), if_pos (by omega), if_pos (by omega), if_pos (by omega), if_pos (by omega)]
      exact hr k (by omega)
def ansI (acc : List S67) : Option (List S67) → List S67 × Bool
  | some l => (acc ++ l, true)
  | none => ([], false)
theorem extract_tw (s : ByteArray) (p : UInt8 → Bool) (i : Nat) : bs (s.extract i (i + (((bs s).drop i).takeWhile p).length)) = ((bs s).drop i).takeWhile p := by
  rw [bs_extract, Nat.add_sub_cancel_left, tw_take]
theorem ba_eq (s : ByteArray) : s = ⟨(bs s).toArray⟩ := by
  apply bs_inj
  simp [bs]
theorem impl_parts_l0 (s : ByteArray) (hs : s.size ≤ 30) : ∀ (m i k : Nat) (acc : List S67), i ≤ s.size → s.size - i ≤ m → 64 * (m + 1) ≤ k → acc.length ≤ i →
    impl_parts.l0 k s acc (i : Int) = some (ansI acc (tok m ((bs s).drop i))) := by
  intro m
  induction m with
  | zero =>
    intro i k acc hi hm hk ha
    obtain ⟨k, rfl⟩ : ∃ k', k = k' + 1 := ⟨k - 1, by omega⟩
    rw [impl_parts.l0, if_neg (by omega), List.drop_eq_nil_of_le (by rw [bs_length]; omega), tok, ansI, List.append_nil]
  | succ m ih =>
    intro i k acc hi hm hk ha
    obtain ⟨k, rfl⟩ : ∃ k', k = k' + 1 := ⟨k - 1, by omega⟩
    by_cases hlt : i < s.size
    · have hil : i < (bs s).length := by rw [bs_length]; exact hlt
      have hd := List.drop_eq_getElem_cons hil
      have hT : tok (m + 1) ((bs s).drop i) = if isDb (bs s)[i] then (if (((bs s).drop i).takeWhile isDb).length > 15 then none else (tok m (((bs s).drop i).dropWhile isDb)).map (fun l => ⟨(numOf (((bs s).drop i).takeWhile isDb) 0 : Nat), ⟨#[]⟩⟩ :: l))
          else if isLb (bs s)[i] then (tok m (((bs s).drop i).dropWhile isLb)).map (fun l => ⟨0, ⟨(((bs s).drop i).takeWhile isLb).toArray⟩⟩ :: l)
          else if (bs s)[i] = 46 ∨ (bs s)[i] = 45 then tok m ((bs s).drop (i + 1)) else none := by rw [hd, tok]
      rw [impl_parts.l0, if_pos (by omega), if_pos (by omega), bt_isD s i hlt, Option.bind_some]
      have hone : ∀ p : UInt8 → Bool, p (bs s)[i] = true → 1 ≤ (((bs s).drop i).takeWhile p).length := fun p h => by rw [tw_step p (bs s) i hil, if_pos h]; simp
      have hle : ∀ p : UInt8 → Bool, (((bs s).drop i).takeWhile p).length ≤ s.size - i := fun p => by have := tw_len p ((bs s).drop i); rwa [List.length_drop, bs_length] at this
      cases hD : isDb (bs s)[i] with
      | true =>
        rw [hD, if_pos rfl] at hT
        have h1 := hone isDb hD
        have h2 := hle isDb
        obtain ⟨q1, q2⟩ := impl_parts_l1 s hs acc (by omega) i (numOf (((bs s).drop i).takeWhile isDb) 0 : Nat) (s.size - i) i k (i + (((bs s).drop i).takeWhile isDb).length) (by omega) (Nat.le_refl _) (by omega) rfl
        rw [if_pos rfl, hT]
        by_cases h15 : (((bs s).drop i).takeWhile isDb).length > 15
        · rw [if_pos h15, q1 (by omega)]; rfl
        · rw [if_neg h15]
          have hx := extract_tw s isDb i
          have hxs : (s.extract i (i + (((bs s).drop i).takeWhile isDb).length)).size = (((bs s).drop i).takeWhile isDb).length := by rw [← bs_length, hx]
          refine q2 (by omega) ?_ _ (fun k' hk' => ?_)
          · rw [parseInt_ok _ (by omega) (by omega) (fun c hc => by rw [hx] at hc; exact mem_tw isDb _ c hc), hx]
          · rw [ih _ k' _ (by omega) (by omega) (by omega) (by simp; omega), dw_eq]
            cases tok m ((bs s).drop (i + (((bs s).drop i).takeWhile isDb).length)) <;> simp [ansI]
      | false =>
        rw [hD, if_neg (by decide)] at hT
        rw [if_neg (by decide), bt_isL s i hlt, Option.bind_some]
        cases hL : isLb (bs s)[i] with
        | true =>
          rw [hL, if_pos rfl] at hT
          have h1 := hone isLb hL
          have h2 := hle isLb
          rw [if_pos rfl, hT]
          refine impl_parts_l2 s hs acc (by omega) i (s.size - i) i k (i + (((bs s).drop i).takeWhile isLb).length) (by omega) (Nat.le_refl _) (by omega) rfl _ (fun k' hk' => ?_)
          rw [ih _ k' _ (by omega) (by omega) (by omega) (by simp; omega), dw_eq]
          have hx := ba_eq (s.extract i (i + (((bs s).drop i).takeWhile isLb).length))
          rw [extract_tw s isLb i] at hx
          rw [hx]
          cases tok m ((bs s).drop (i + (((bs s).drop i).takeWhile isLb).length)) <;> simp [ansI]
        | false =>
          rw [hL, if_neg (by decide)] at hT
          have hw : wrap64 ((i : Int) + 1) = ((i + 1 : Nat) : Int) := by rw [wrap64_id (by omega) (by omega)]; omega
          have hb := bt_nat s i hlt
          have e46 : bt s (i : Int) = 46 ↔ (bs s)[i] = 46 := by
            rw [hb]
            constructor
            · intro h; exact UInt8.toNat_inj.mp (by show _ = 46; omega)
            · intro h; rw [h]; rfl
          have e45 : bt s (i : Int) = 45 ↔ (bs s)[i] = 45 := by
            rw [hb]
            constructor
            · intro h; exact UInt8.toNat_inj.mp (by show _ = 45; omega)
            · intro h; rw [h]; rfl
          rw [if_neg (by decide), hw, hT]
          by_cases h46 : (bs s)[i] = 46
          · rw [if_pos (e46.2 h46), if_pos (.inl h46), ih (i + 1) k acc (by omega) (by omega) (by omega) (by omega)]
          · rw [if_neg (fun h => h46 (e46.1 h))]
            by_cases h45 : (bs s)[i] = 45
            · rw [if_pos (e45.2 h45), if_pos (.inr h45), ih (i + 1) k acc (by omega) (by omega) (by omega) (by omega)]
            · rw [if_neg (fun h => h45 (e45.1 h)), if_neg (fun h => h.elim h46 h45)]
              rfl
    · rw [impl_parts.l0, if_neg (by omega), List.drop_eq_nil_of_le (by rw [bs_length]; omega), tok, ansI, List.append_nil]
def verOk (s : ByteArray) : Bool := decide (1 ≤ s.size) && (decide (s.size ≤ 30) && (isD (bt s 0) && (tok 30 (bs s)).isSome))
def toks (s : ByteArray) : List S67 := (tok 30 (bs s)).getD []
theorem impl_parts_eq (s : ByteArray) (k : Nat) (hk : 2000 ≤ k) : impl_parts.f k s = some (if verOk s = true then (toks s, true) else ([], false)) := by
  obtain ⟨k, rfl⟩ : ∃ k', k = k' + 1 := ⟨k - 1, by omega⟩
  unfold impl_parts.f verOk toks
  by_cases h1 : s.size < 1
  · rw [if_pos (by omega), impl_parts.j0, if_pos rfl, decide_eq_false (by omega)]; rfl
  · rw [if_neg (by omega)]
    by_cases h2 : s.size > 30
    · rw [if_pos (by omega), impl_parts.j0, if_pos rfl, decide_eq_false (p := s.size ≤ 30) (by omega)]
      simp
    · rw [if_neg (by omega), if_pos (by omega), impl_digit_eq, Option.bind_some, impl_parts.j0]
      cases hd : isD (bt s 0) with
      | false => simp
      | true =>
        have := impl_parts_l0 s (by omega) 30 0 k [] (by omega) (by omega) (by omega) (by simp)
        rw [show ((0 : Nat) : Int) = 0 from rfl, List.drop_zero] at this
        rw [if_neg (by decide), this]
        cases tok 30 (bs s) <;> simp [ansI, show 1 ≤ s.size by omega, show s.size ≤ 30 by omega]
theorem spec_l1_step (s : ByteArray) (hs : s.size ≤ 30) (acc : List S88) (ha : acc.length ≤ 30) (fr j k : Nat) (x : Int) (hj : j < s.size) (hi : fr ≤ j) :
    ∃ y, spec_l6Parts.l1 (k + 2) s acc (j : Int) (fr : Int) x = if isDb ((bs s)[j]'(by rw [bs_length]; exact hj)) = true then (if j + 1 - fr > 15 then some (acc, false) else spec_l6Parts.l1 k s acc ((j + 1 : Nat) : Int) (fr : Int) y) else spec_l6Parts.l0 k s (acc ++ [⟨⟨#[]⟩, x⟩]) (j : Int) := by
  refine ⟨wrap64 ((wrap64 (x * 10)) + (((bt s (j : Int)) - 48) % 256)), ?_⟩
  have hj1 : (j : Int) < (s.size : Int) := by omega
  have hj0 : (0 : Int) ≤ (j : Int) := by omega
  have hacc : acc.length < 5864062014805 := by omega
  have hw : wrap64 ((j : Int) + 1) = ((j + 1 : Nat) : Int) := by rw [wrap64_id (by omega) (by omega)]; omega
  have hw2 : wrap64 (((j + 1 : Nat) : Int) - (fr : Int)) = ((j + 1 : Nat) : Int) - (fr : Int) := wrap64_id (by omega) (by omega)
  rw [spec_l6Parts.l1, if_pos hj1, if_pos hj0, bt_isDs s j hj, Option.bind_some, spec_l6Parts.j3]
  simp only [if_pos hj0, if_pos hj1, if_pos hacc, hw, hw2]
  clear hw hw2
  by_cases h : j + 1 - fr > 15
  · rw [if_pos h, if_pos (show ((j + 1 : Nat) : Int) - (fr : Int) > 15 by omega)]
  · rw [if_neg h, if_neg (show ¬ ((j + 1 : Nat) : Int) - (fr : Int) > 15 by omega)]
theorem spec_parts_l1 (s : ByteArray) (hs : s.size ≤ 30) (acc : List S88) (ha : acc.length ≤ 30) (fr : Nat) : ∀ (n j k : Nat) (x : Int) (e : Nat), j + n = s.size → fr ≤ j → j - fr ≤ 15 → 2 * n + 3 ≤ k → e = j + (((bs s).drop j).takeWhile isDb).length →
    (e - fr > 15 → ∃ q, spec_l6Parts.l1 k s acc (j : Int) (fr : Int) x = some (q, false)) ∧
    (e - fr ≤ 15 → ∃ y, ∀ r, (∀ k', k ≤ k' + 2 * n + 3 → spec_l6Parts.l0 k' s (acc ++ [⟨⟨#[]⟩, y⟩]) (e : Int) = some r) → spec_l6Parts.l1 k s acc (j : Int) (fr : Int) x = some r) := by
  intro n
  induction n with
  | zero =>
    intro j k x e hj hi h15 hk he
    obtain ⟨k, rfl⟩ : ∃ k', k = k' + 2 := ⟨k - 2, by omega⟩
    rw [List.drop_eq_nil_of_le (by rw [bs_length]; omega)] at he
    simp at he
    subst he
    refine ⟨fun h => by omega, fun _ => ⟨x, fun r hr => ?_⟩⟩
    rw [spec_l6Parts.l1, if_neg (by omega), spec_l6Parts.j3, if_neg (by decide), if_pos (by omega)]
    exact hr k (by omega)
  | succ n ih =>
    intro j k x e hj hi h15 hk he
    obtain ⟨k, rfl⟩ : ∃ k', k = k' + 2 := ⟨k - 2, by omega⟩
    have hjl : j < (bs s).length := by rw [bs_length]; omega
    rw [tw_step isDb (bs s) j hjl] at he
    obtain ⟨y0, hstep⟩ := spec_l1_step s hs acc ha fr j k x (by omega) hi
    rw [hstep]
    cases hd : isDb (bs s)[j] with
    | true =>
      rw [if_pos hd, List.length_cons] at he
      rw [if_pos rfl]
      by_cases h16 : j + 1 - fr > 15
      · rw [if_pos h16]
        exact ⟨fun _ => ⟨_, rfl⟩, fun h => by omega⟩
      · rw [if_neg h16]
        obtain ⟨q1, q2⟩ := ih (j + 1) k y0 e (by omega) (by omega) (by omega) (by omega) (by omega)
        refine ⟨q1, fun h => ?_⟩
        obtain ⟨y, hy⟩ := q2 h
        exact ⟨y, fun r hr => hy r (fun k' hk' => hr k' (by omega))⟩
    | false =>
      rw [if_neg (by simp [hd])] at he
      simp at he
      subst he
      rw [if_neg (by decide)]
      exact ⟨fun h => by omega, fun _ => ⟨x, fun r hr => hr k (by omega)⟩⟩
theorem spec_parts_l2 (s : ByteArray) (hs : s.size ≤ 30) (acc : List S88) (ha : acc.length ≤ 30) (i : Nat) : ∀ (n j k : Nat) (e : Nat), j + n = s.size → i ≤ j → n + 1 ≤ k → e = j + (((bs s).drop j).takeWhile isLb).length →
    ∃ y : S88, ∀ r, (∀ k', k ≤ k' + n + 1 → spec_l6Parts.l0 k' s (acc ++ [y]) (e : Int) = some r) → spec_l6Parts.l2 k s acc (j : Int) (i : Int) = some r := by
  intro n
  induction n with
  | zero =>
    intro j k e hj hi hk he
    obtain ⟨k, rfl⟩ : ∃ k', k = k' + 1 := ⟨k - 1, by omega⟩
    rw [List.drop_eq_nil_of_le (by rw [bs_length]; omega)] at he
    simp at he
    subst he
    refine ⟨⟨s.extract i e, 0⟩, fun r hr => ?_⟩
    rw [spec_l6Parts.l2, if_neg (by omega), if_pos (by omega), if_pos (by omega), if_pos (by omega), if_pos (by omega)]
    exact hr k (by omega)
  | succ n ih =>
    intro j k e hj hi hk he
    obtain ⟨k, rfl⟩ : ∃ k', k = k' + 1 := ⟨k - 1, by omega⟩
    have hjl : j < (bs s).length := by rw [bs_length]; omega
    rw [tw_step isLb (bs s) j hjl] at he
    rw [spec_l6Parts.l2, if_pos (by omega), if_pos (by omega), bt_isLs s j (by omega), Option.bind_some]
    cases hd : isLb (bs s)[j] with
    | true =>
      rw [if_pos hd, List.length_cons] at he
      have hw : wrap64 ((j : Int) + 1) = ((j + 1 : Nat) : Int) := by rw [wrap64_id (by omega) (by omega)]; omega
      obtain ⟨y, hy⟩ := ih (j + 1) k e (by omega) (by omega) (by omega) (by omega)
      refine ⟨y, fun r hr => ?_⟩
      rw [if_pos rfl, hw]
      exact hy r (fun k' hk' => hr k' (by omega))
    | false =>
      rw [if_neg (by simp [hd])] at he
      simp at he
      subst he
      refine ⟨⟨s.extract i e, 0⟩, fun r hr => ?_⟩
      rw [if_neg (by decide), if_pos (by omega), if_pos (by omega), if_pos (by omega), if_pos (by omega)]
      exact hr k (by omega)
theorem spec_parts_l0 (s : ByteArray) (hs : s.size ≤ 30) : ∀ (m i : Nat) (acc : List S88), i ≤ s.size → s.size - i ≤ m → acc.length ≤ i →
    ∃ q, ∀ k, 128 * (m + 1) ≤ k → spec_l6Parts.l0 k s acc (i : Int) = some (q, (tok m ((bs s).drop i)).isSome) := by
  intro m
  induction m with
  | zero =>
    intro i acc hi hm ha
    refine ⟨acc, fun k hk => ?_⟩
    obtain ⟨k, rfl⟩ : ∃ k', k = k' + 1 := ⟨k - 1, by omega⟩
    rw [spec_l6Parts.l0, if_neg (by omega), List.drop_eq_nil_of_le (by rw [bs_length]; omega), tok]; rfl
  | succ m ih =>
    intro i acc hi hm ha
    by_cases hlt : i < s.size
    · have hil : i < (bs s).length := by rw [bs_length]; exact hlt
      have hd := List.drop_eq_getElem_cons hil
      have hT : (tok (m + 1) ((bs s).drop i)).isSome = if isDb (bs s)[i] then (if (((bs s).drop i).takeWhile isDb).length > 15 then false else (tok m (((bs s).drop i).dropWhile isDb)).isSome)
          else if isLb (bs s)[i] then (tok m (((bs s).drop i).dropWhile isLb)).isSome
          else if (bs s)[i] = 46 ∨ (bs s)[i] = 45 then (tok m ((bs s).drop (i + 1))).isSome else false := by
        rw [hd, tok, ← hd]
        repeat' split
        all_goals simp_all
      have hone : ∀ p : UInt8 → Bool, p (bs s)[i] = true → 1 ≤ (((bs s).drop i).takeWhile p).length := fun p h => by rw [tw_step p (bs s) i hil, if_pos h]; simp
      have hle : ∀ p : UInt8 → Bool, (((bs s).drop i).takeWhile p).length ≤ s.size - i := fun p => by have := tw_len p ((bs s).drop i); rwa [List.length_drop, bs_length] at this
      have hk0 : ∀ k, 128 * (m + 1 + 1) ≤ k → ∃ k', k = k' + 1 := fun k hk => ⟨k - 1, by omega⟩
      cases hD : isDb (bs s)[i] with
      | true =>
        rw [hD, if_pos rfl] at hT
        have h1 := hone isDb hD
        have h2 := hle isDb
        by_cases h15 : (((bs s).drop i).takeWhile isDb).length > 15
        · rw [if_pos h15] at hT
          obtain ⟨k1, hk1⟩ := hk0 (128 * (m + 1 + 1)) (Nat.le_refl _)
          obtain ⟨q, hq⟩ := (spec_parts_l1 s hs acc (by omega) i (s.size - i) i k1 0 (i + (((bs s).drop i).takeWhile isDb).length) (by omega) (Nat.le_refl _) (by omega) (by omega) rfl).1 (by omega)
          refine ⟨q, fun k hk => ?_⟩
          have h0 : spec_l6Parts.l0 (128 * (m + 1 + 1)) s acc (i : Int) = some (q, false) := by
            rw [hk1, spec_l6Parts.l0, if_pos (by omega), if_pos (by omega), bt_isDs s i hlt, Option.bind_some, hD, if_pos rfl, hq]
          rw [hT]
          exact at_rounds (fun k => (spec_l6Parts.mono_l k).2.1 _ _ _) hk h0
        · rw [if_neg h15] at hT
          obtain ⟨k1, hk1⟩ := hk0 (128 * (m + 1 + 1)) (Nat.le_refl _)
          obtain ⟨y, hy⟩ := (spec_parts_l1 s hs acc (by omega) i (s.size - i) i k1 0 (i + (((bs s).drop i).takeWhile isDb).length) (by omega) (Nat.le_refl _) (by omega) (by omega) rfl).2 (by omega)
          obtain ⟨q, hq⟩ := ih (i + (((bs s).drop i).takeWhile isDb).length) (acc ++ [⟨⟨#[]⟩, y⟩]) (by omega) (by omega) (by simp; omega)
          refine ⟨q, fun k hk => ?_⟩
          have h0 : spec_l6Parts.l0 (128 * (m + 1 + 1)) s acc (i : Int) = some (q, (tok m (((bs s).drop i).dropWhile isDb)).isSome) := by
            rw [hk1, spec_l6Parts.l0, if_pos (by omega), if_pos (by omega), bt_isDs s i hlt, Option.bind_some, hD, if_pos rfl, dw_eq]
            exact hy _ (fun k' hk' => hq k' (by omega))
          rw [hT]
          exact at_rounds (fun k => (spec_l6Parts.mono_l k).2.1 _ _ _) hk h0
      | false =>
        rw [hD, if_neg (by decide)] at hT
        cases hL : isLb (bs s)[i] with
        | true =>
          rw [hL, if_pos rfl] at hT
          have h1 := hone isLb hL
          have h2 := hle isLb
          obtain ⟨k1, hk1⟩ := hk0 (128 * (m + 1 + 1)) (Nat.le_refl _)
          obtain ⟨y, hy⟩ := spec_parts_l2 s hs acc (by omega) i (s.size - i) i k1 (i + (((bs s).drop i).takeWhile isLb).length) (by omega) (Nat.le_refl _) (by omega) rfl
          obtain ⟨q, hq⟩ := ih (i + (((bs s).drop i).takeWhile isLb).length) (acc ++ [y]) (by omega) (by omega) (by simp; omega)
          refine ⟨q, fun k hk => ?_⟩
          have h0 : spec_l6Parts.l0 (128 * (m + 1 + 1)) s acc (i : Int) = some (q, (tok m (((bs s).drop i).dropWhile isLb)).isSome) := by
            rw [hk1, spec_l6Parts.l0, if_pos (by omega), if_pos (by omega), bt_isDs s i hlt, Option.bind_some, hD, if_neg (by decide), bt_isLs s i hlt, Option.bind_some, hL, if_pos rfl, dw_eq]
            exact hy _ (fun k' hk' => hq k' (by omega))
          rw [hT]
          exact at_rounds (fun k => (spec_l6Parts.mono_l k).2.1 _ _ _) hk h0
        | false =>
          rw [hL, if_neg (by decide)] at hT
          have hw : wrap64 ((i : Int) + 1) = ((i + 1 : Nat) : Int) := by rw [wrap64_id (by omega) (by omega)]; omega
          have hb := bt_nat s i hlt
          have e46 : bt s (i : Int) = 46 ↔ (bs s)[i] = 46 := by
            rw [hb]
            constructor
            · intro h; exact UInt8.toNat_inj.mp (by show _ = 46; omega)
            · intro h; rw [h]; rfl
          have e45 : bt s (i : Int) = 45 ↔ (bs s)[i] = 45 := by
            rw [hb]
            constructor
            · intro h; exact UInt8.toNat_inj.mp (by show _ = 45; omega)
            · intro h; rw [h]; rfl
          obtain ⟨q, hq⟩ := ih (i + 1) acc (by omega) (by omega) (by omega)
          by_cases hc : (bs s)[i] = 46 ∨ (bs s)[i] = 45
          · refine ⟨q, fun k hk => ?_⟩
            obtain ⟨k, rfl⟩ := hk0 k hk
            rw [spec_l6Parts.l0, if_pos (by omega), if_pos (by omega), bt_isDs s i hlt, Option.bind_some, hD, if_neg (by decide), bt_isLs s i hlt, Option.bind_some, hL, if_neg (by decide), hw, hT, if_pos hc]
            by_cases h46 : (bs s)[i] = 46
            · rw [if_pos (e46.2 h46)]; exact hq k (by omega)
            · rw [if_neg (fun h => h46 (e46.1 h)), if_pos (e45.2 (hc.resolve_left h46))]; exact hq k (by omega)
          · refine ⟨acc, fun k hk => ?_⟩
            obtain ⟨k, rfl⟩ := hk0 k hk
            rw [spec_l6Parts.l0, if_pos (by omega), if_pos (by omega), bt_isDs s i hlt, Option.bind_some, hD, if_neg (by decide), bt_isLs s i hlt, Option.bind_some, hL, if_neg (by decide), hT, if_neg hc,
              if_neg (fun h => hc (.inl (e46.1 h))), if_neg (fun h => hc (.inr (e45.1 h)))]
    · refine ⟨acc, fun k hk => ?_⟩
      obtain ⟨k, rfl⟩ : ∃ k', k = k' + 1 := ⟨k - 1, by omega⟩
      rw [spec_l6Parts.l0, if_neg (by omega), List.drop_eq_nil_of_le (by rw [bs_length]; omega), tok]; rfl
theorem spec_VersionOk_eq (s : ByteArray) (k : Nat) (hk : 4100 ≤ k) : spec_VersionOk.f k s = some (verOk s) := by
  obtain ⟨k, rfl⟩ : ∃ k', k = k' + 1 := ⟨k - 1, by omega⟩
  unfold spec_VersionOk.f spec_l6Parts.f verOk
  rw [Option.bind_some]
  by_cases h1 : s.size < 1
  · rw [if_pos (by omega), spec_l6Parts.j0, if_pos rfl, decide_eq_false (by omega)]; rfl
  · rw [if_neg (by omega)]
    by_cases h2 : s.size > 30
    · rw [if_pos (by omega), spec_l6Parts.j0, if_pos rfl, decide_eq_false (p := s.size ≤ 30) (by omega)]
      simp
    · rw [if_neg (by omega), if_pos (by omega), spec_l1Digit_eq, Option.bind_some, spec_l6Parts.j0]
      cases hd : isD (bt s 0) with
      | false => simp
      | true =>
        obtain ⟨q, hq⟩ := spec_parts_l0 s (by omega) 30 0 [] (by omega) (by omega) (by simp)
        have := hq k (by omega)
        rw [show ((0 : Nat) : Int) = 0 from rfl, List.drop_zero] at this
        simp [this, show 1 ≤ s.size by omega, show s.size ≤ 30 by omega]
end Go.Proofs.YthfohhpjanoimaaDoor.P
end

section
set_option linter.unusedVariables false
set_option linter.unusedSimpArgs false
namespace Go.Proofs.YthfohhpjanoimaaDoor.P
open Go.RowKit Go.Proofs.YthfohhpjanoimaaDoorW.PrintWords Go.Proofs.YthfohhpjanoimaaDoorW.PrintLast Go.Proofs.YthfohhpjanoimaaDoorM
def gv (l : List S67) (i : Nat) : S67 := l.getD i z67
def rk (l : List S67) (i : Nat) : Int := if l.length ≤ i then 1 else if bs (gv l i).f1 = [] then 2 else 0
def sgn (a b : Int) : Int := if a < b then -1 else if b < a then 1 else 0
def kc (x y : List S67) (i : Nat) : Int := if rk x i = rk y i then (if rk x i = 0 then Lib.compareBytes (bs (gv x i).f1) (bs (gv y i).f1) else if rk x i = 2 then sgn (gv x i).f0 (gv y i).f0 else 0) else sgn (rk x i) (rk y i)
def cmpN (x y : List S67) : Nat → Nat → Int
  | 0, _ => 0
  | m + 1, i => if kc x y i = 0 then cmpN x y m (i + 1) else kc x y i
def vc (a b : ByteArray) : Int := cmpN (toks a) (toks b) 64 0
end Go.Proofs.YthfohhpjanoimaaDoor.P
end

section
set_option linter.unusedVariables false
set_option linter.unusedSimpArgs false
namespace Go.Proofs.YthfohhpjanoimaaDoor.P
open Go.RowKit Go.Proofs.YthfohhpjanoimaaDoorW.PrintWords Go.Proofs.YthfohhpjanoimaaDoorW.PrintLast Go.Proofs.YthfohhpjanoimaaDoorM
end Go.Proofs.YthfohhpjanoimaaDoor.P
end

section
set_option linter.unusedVariables false
set_option linter.unusedSimpArgs false
namespace Go.Proofs.YthfohhpjanoimaaDoor.P
open Go.RowKit Go.Proofs.YthfohhpjanoimaaDoorW.PrintWords Go.Proofs.YthfohhpjanoimaaDoorW.PrintLast Go.Proofs.YthfohhpjanoimaaDoorM
def pcsG (sub : List UInt8) : List UInt8 → List UInt8 → List (List UInt8)
  | cur, [] => [cur]
  | cur, b :: l => if sub.isPrefixOf (b :: l) = true then cur :: pcsG sub [] (l.drop (sub.length - 1)) else pcsG sub (cur ++ [b]) l
termination_by _ l => l.length
decreasing_by all_goals (simp only [List.length_cons, List.length_drop]; omega)
theorem indexG (b : UInt8) (l sub : List UInt8) : Lib.index (b :: l) sub = if sub.isPrefixOf (b :: l) = true then 0 else if Lib.index l sub = -1 then -1 else Lib.index l sub + 1 := by
  rw [Lib.index]
  by_cases h : Lib.index l sub = -1 <;> simp [h]
theorem pcsG_miss (sub : List UInt8) (hs : sub ≠ []) : ∀ (l cur : List UInt8), Lib.index l sub = -1 → pcsG sub cur l = [cur ++ l]
  | [], cur, _ => by rw [pcsG]; simp
  | b :: l, cur, h => by
    rw [indexG] at h
    by_cases hb : sub.isPrefixOf (b :: l) = true
    · rw [if_pos hb] at h; omega
    · rw [if_neg hb] at h
      by_cases hi : Lib.index l sub = -1
      · rw [pcsG, if_neg hb, pcsG_miss sub hs l _ hi]; simp
      · rw [if_neg hi] at h
        have := Lib.index_ge l sub
        omega
theorem pcsG_hit (sub : List UInt8) (hs : sub ≠ []) : ∀ (l cur : List UInt8) (i : Nat), Lib.index l sub = i → pcsG sub cur l = (cur ++ l.take i) :: pcsG sub [] (l.drop (i + sub.length))
  | [], cur, i, h => by
    rw [Lib.index] at h
    rw [if_neg (by simpa using hs)] at h
    omega
  | b :: l, cur, i, h => by
    have hl : 1 ≤ sub.length := by cases sub with | nil => exact absurd rfl hs | cons _ _ => simp
    rw [indexG] at h
    by_cases hb : sub.isPrefixOf (b :: l) = true
    · rw [if_pos hb] at h
      obtain rfl : i = 0 := by omega
      rw [pcsG, if_pos hb]
      obtain ⟨m, hm⟩ : ∃ m, sub.length = m + 1 := ⟨sub.length - 1, by omega⟩
      rw [hm]
      simp
    · rw [if_neg hb] at h
      by_cases hi : Lib.index l sub = -1
      · rw [if_pos hi] at h; omega
      · rw [if_neg hi] at h
        have := Lib.index_ge l sub
        obtain ⟨j, rfl⟩ : ∃ j, i = j + 1 := ⟨i - 1, by omega⟩
        rw [pcsG, if_neg hb, pcsG_hit sub hs l _ j (by omega), show j + 1 + sub.length = (j + sub.length) + 1 by omega]
        simp
theorem splitK_pcsG (sub : List UInt8) (hs : sub ≠ []) : ∀ (k : Nat) (l : List UInt8), Lib.count l sub = k → Lib.splitK sub 0 k l = pcsG sub [] l
  | 0, l, h => by
    have hi : Lib.index l sub = -1 := by
      rcases Lib.index_spec l sub with ⟨h1, _⟩ | ⟨i, h1, _⟩
      · exact h1
      · rw [Lib.count_hit hs h1] at h; omega
    rw [pcsG_miss sub hs l [] hi, Lib.splitK]; rfl
  | k + 1, l, h => by
    rcases Lib.index_spec l sub with ⟨h1, _⟩ | ⟨i, h1, _⟩
    · rw [Lib.count_miss h1] at h; omega
    · have h2 := Lib.count_hit (s := l) (sub := sub) hs h1
      rw [Lib.splitK, if_neg (by rw [h1]; simp), pcsG_hit sub hs l [] i h1, h1]
      simp only [Int.toNat_natCast, Nat.add_zero, List.nil_append]
      rw [splitK_pcsG sub hs k _ (by omega)]
def mk (l : List UInt8) : ByteArray := ⟨l.toArray⟩
theorem bs_mk (l : List UInt8) : bs (mk l) = l := by simp [bs, mk]
theorem mk_bs (s : ByteArray) : mk (bs s) = s := bs_inj (bs_mk _)
theorem mk_size (l : List UInt8) : (mk l).size = l.length := by rw [← bs_length, bs_mk]
theorem map_bs_inj {xs : List ByteArray} {l : List (List UInt8)} (h : xs.map bs = l) : xs = l.map mk := by
  rw [← h, List.map_map]
  have : mk ∘ bs = id := by funext s; exact mk_bs s
  rw [this, List.map_id]
theorem Split_eq (s q : ByteArray) (hs : s.size < 1073741824) (hq : 1 ≤ q.size) : strings_Split.f s q = some ((pcsG (bs q) [] (bs s)).map mk) := by
  unfold strings_Split.f
  rw [if_pos (by omega), if_pos (by omega)]
  have hm := Lib.splitB_data q 0 (Lib.countB s q) s
  have hq0 : bs q ≠ [] := fun h => by rw [bs_nil] at h; omega
  have hk2 : Lib.splitK (bs q) 0 (Lib.countB s q) (bs s) = pcsG (bs q) [] (bs s) := splitK_pcsG _ hq0 _ _ rfl
  have h2 : (Lib.splitB q 0 (Lib.countB s q) s).map bs = pcsG (bs q) [] (bs s) := hm.trans hk2
  rw [map_bs_inj h2]
theorem pcsG_length (sub : List UInt8) : ∀ (n : Nat) (l cur : List UInt8), l.length ≤ n → (pcsG sub cur l).length ≤ l.length + 1 := by
  intro n
  induction n with
  | zero =>
    intro l cur h
    obtain rfl : l = [] := List.eq_nil_of_length_eq_zero (by omega)
    rw [pcsG]; simp
  | succ n ih =>
    intro l cur h
    cases l with
    | nil => rw [pcsG]; simp
    | cons b l =>
      simp only [List.length_cons] at h
      rw [pcsG]
      split
      · have := ih (l.drop (sub.length - 1)) [] (by rw [List.length_drop]; omega)
        rw [List.length_drop] at this
        simp only [List.length_cons]
        omega
      · have := ih l (cur ++ [b]) (by omega)
        simp only [List.length_cons]
        omega
theorem pcsG_sizes (sub : List UInt8) : ∀ (n : Nat) (l cur : List UInt8), l.length ≤ n → ∀ p ∈ pcsG sub cur l, p.length ≤ cur.length + l.length := by
  intro n
  induction n with
  | zero =>
    intro l cur h p hp
    obtain rfl : l = [] := List.eq_nil_of_length_eq_zero (by omega)
    rw [pcsG] at hp
    rw [List.mem_singleton.1 hp]; simp
  | succ n ih =>
    intro l cur h p hp
    cases l with
    | nil => rw [pcsG] at hp; rw [List.mem_singleton.1 hp]; simp
    | cons b l =>
      simp only [List.length_cons] at h
      rw [pcsG] at hp
      split at hp
      · rcases List.mem_cons.1 hp with rfl | hp
        · omega
        · have := ih (l.drop (sub.length - 1)) [] (by rw [List.length_drop]; omega) p hp
          simp only [List.length_drop, List.length_nil, List.length_cons] at this ⊢
          omega
      · have := ih l (cur ++ [b]) (by omega) p hp
        simp only [List.length_append, List.length_cons, List.length_nil] at this ⊢
        omega
theorem extract_mk (s : ByteArray) (a b : Nat) : s.extract a b = mk (((bs s).drop a).take (b - a)) := by rw [← mk_bs (s.extract a b), bs_extract]
theorem take_more (l : List UInt8) (a j : Nat) (ha : a ≤ j) (hj : j < l.length) : (l.drop a).take (j + 1 - a) = (l.drop a).take (j - a) ++ [l[j]] := by
  rw [show j + 1 - a = (j - a) + 1 by omega, List.take_succ_eq_append_getElem (by rw [List.length_drop]; omega)]
  congr 2
  rw [List.getElem_drop]
  congr 1
  omega
theorem spec_l6Words_l0 (s : ByteArray) (hs : s.size ≤ 1000) : ∀ (n k i : Nat) (out : List ByteArray) (w : List UInt8), 2 * n + 4 ≤ k → i + n = s.size → w.length ≤ i → out.length ≤ i →
    spec_l6Words.l0 k s out (mk w) (i : Int) = some (out ++ ((pcsG [32] w ((bs s).drop i)).filter (fun x => decide (x ≠ []))).map mk) := by
  intro n
  induction n with
  | zero =>
    intro k i out w hk hi hw ho
    obtain ⟨k, rfl⟩ : ∃ k', k = k' + 3 := ⟨k - 3, by omega⟩
    have hw1 : wrap64 ((i : Int) + 1) = (i : Int) + 1 := wrap64_id (by omega) (by omega)
    rw [List.drop_eq_nil_of_le (by rw [bs_length]; omega), pcsG, spec_l6Words.l0, if_pos (by omega), if_neg (by omega), spec_l6Words.j1, if_neg (by decide), hw1, toList_bs, bs_mk]
    by_cases hw0 : w = []
    · rw [if_pos hw0, spec_l6Words.l0, if_neg (by omega)]
      simp [hw0]
    · rw [if_neg hw0, if_pos (by omega), spec_l6Words.l0, if_neg (by omega)]
      simp [hw0]
  | succ n ih =>
    intro k i out w hk hi hw ho
    obtain ⟨k, rfl⟩ : ∃ k', k = k' + 2 := ⟨k - 2, by omega⟩
    have hw1 : wrap64 ((i : Int) + 1) = ((i + 1 : Nat) : Int) := by rw [wrap64_id (by omega) (by omega)]; omega
    have hil : i < (bs s).length := by rw [bs_length]; omega
    have hb := bt_nat s i (by omega)
    have hd := List.drop_eq_getElem_cons hil
    rw [hd, pcsG, ← hd, spec_l6Words.l0, if_pos (by omega), if_pos (by omega), if_pos (by omega), spec_l6Words.j1, hb, hw1]
    have hpre : List.isPrefixOf [32] ((bs s).drop i) = decide ((bs s)[i] = 32) := by
      rw [hd]
      by_cases h : (bs s)[i] = 32
      · simp [List.isPrefixOf, h]
      · have : ((32 : UInt8) == (bs s)[i]) = false := by simpa using fun e => h e.symm
        simp [List.isPrefixOf, this, h]
    rw [hpre]
    by_cases h32 : (bs s)[i] = 32
    · have hne : (((bs s)[i].toNat : Int) != 32) = false := by rw [h32]; rfl
      rw [hne, if_neg (by decide), decide_eq_true h32, if_pos rfl, toList_bs, bs_mk]
      simp only [List.length_cons, List.length_nil, Nat.zero_add, Nat.sub_self, List.drop_zero]
      by_cases hw0 : w = []
      · rw [if_pos hw0, hw0]
        have := ih k (i + 1) out [] (by omega) (by omega) (by simp) (by omega)
        rw [this]
        simp
      · rw [if_neg hw0, if_pos (by omega)]
        have := ih k (i + 1) (out ++ [mk w]) [] (by omega) (by omega) (by simp) (by simp; omega)
        rw [show (⟨#[]⟩ : ByteArray) = mk [] from rfl, this]
        simp [hw0]
    · have hne : (((bs s)[i].toNat : Int) != 32) = true := by
        rw [bne_iff_ne]
        intro h
        exact h32 (UInt8.toNat_inj.mp (by show _ = 32; omega))
      have hx : s.extract (i : Int).toNat ((i + 1 : Nat) : Int).toNat = mk [(bs s)[i]] := by
        rw [Int.toNat_natCast, Int.toNat_natCast, extract_mk, hd, show i + 1 - i = 1 by omega]
        rfl
      rw [hne, if_pos rfl, if_pos (by omega), if_pos (by omega), if_pos (by omega), hx, if_pos (by rw [mk_size, mk_size]; simp; omega), decide_eq_false h32, if_neg (by decide)]
      have happ : mk w ++ mk [(bs s)[i]] = mk (w ++ [(bs s)[i]]) := by
        apply bs_inj
        rw [bs_mk]
        unfold bs
        rw [ByteArray.data_append, Array.toList_append]
        simp [mk]
      rw [happ]
      exact ih k (i + 1) out (w ++ [(bs s)[i]]) (by omega) (by omega) (by simp; omega) (by omega)
def wordsOf (s : ByteArray) : List ByteArray := ((pcsG [32] [] (bs s)).filter (fun x => decide (x ≠ []))).map mk
theorem spec_l6Words_eq (s : ByteArray) (hs : s.size ≤ 1000) (k : Nat) (hk : 2004 ≤ k) : spec_l6Words.f k s = some (wordsOf s) := by
  have := spec_l6Words_l0 s hs s.size k 0 [] [] (by omega) (by omega) (by simp) (by simp)
  unfold spec_l6Words.f wordsOf
  rw [List.drop_zero] at this
  rw [show (⟨#[]⟩ : ByteArray) = mk [] from rfl]
  simpa using this
theorem spec_l6Alt_l0 (s : ByteArray) (hs : s.size ≤ 1000) : ∀ (n k fr i : Nat) (out : List ByteArray), n + 2 ≤ k → s.size ≤ i + n → fr ≤ i → i ≤ s.size → out.length ≤ i →
    spec_l6Alternatives.l0 k s out (fr : Int) (i : Int) = some (out ++ (pcsG [124, 124] (((bs s).drop fr).take (i - fr)) ((bs s).drop i)).map mk) := by
  intro n
  induction n with
  | zero =>
    intro k fr i out hk hi hf hle ho
    obtain ⟨k, rfl⟩ : ∃ k', k = k' + 1 := ⟨k - 1, by omega⟩
    have hw1 : wrap64 ((i : Int) + 1) = (i : Int) + 1 := wrap64_id (by omega) (by omega)
    rw [List.drop_eq_nil_of_le (i := i) (by rw [bs_length]; omega), pcsG, spec_l6Alternatives.l0, hw1, if_neg (by omega), if_pos (by omega), if_pos (by omega), if_pos (by omega), Int.toNat_natCast, extract_mk, show s.size = i by omega]
    rfl
  | succ n ih =>
    intro k fr i out hk hi hf hle ho
    obtain ⟨k, rfl⟩ : ∃ k', k = k' + 1 := ⟨k - 1, by omega⟩
    have hw1 : wrap64 ((i : Int) + 1) = ((i + 1 : Nat) : Int) := by rw [wrap64_id (by omega) (by omega)]; omega
    have hw2 : wrap64 ((i : Int) + 2) = ((i + 2 : Nat) : Int) := by rw [wrap64_id (by omega) (by omega)]; omega
    have hw3 : wrap64 (((i + 1 : Nat) : Int) + 1) = ((i + 2 : Nat) : Int) := by rw [wrap64_id (by omega) (by omega)]; omega
    rw [spec_l6Alternatives.l0, hw1, hw2, hw3]
    have hlen := bs_length s
    by_cases hend : i + 1 < s.size
    · have hil : i < (bs s).length := by omega
      have hil2 : i + 1 < (bs s).length := by omega
      have hd := List.drop_eq_getElem_cons hil
      have hd2 := List.drop_eq_getElem_cons hil2
      have hx : (s.extract (i : Int).toNat ((i + 2 : Nat) : Int).toNat).toList = [(bs s)[i], (bs s)[i + 1]] := by
        rw [Int.toNat_natCast, Int.toNat_natCast, toList_bs, bs_extract, hd, hd2, show i + 2 - i = 2 by omega]
        rfl
      rw [if_pos (by omega), if_pos (by omega), if_pos (by omega), if_pos (by omega), hx]
      rw [hd, pcsG, ← hd]
      have hpre : List.isPrefixOf [124, 124] ((bs s).drop i) = decide ([(bs s)[i], (bs s)[i + 1]] = [124, 124]) := by
        rw [hd, hd2]
        by_cases h : (bs s)[i] = 124
        · by_cases h2 : (bs s)[i + 1] = 124
          · simp [List.isPrefixOf, h, h2]
          · have : ((124 : UInt8) == (bs s)[i + 1]) = false := by simpa using fun e => h2 e.symm
            simp [List.isPrefixOf, h, this, h2]
        · have : ((124 : UInt8) == (bs s)[i]) = false := by simpa using fun e => h e.symm
          simp [List.isPrefixOf, this, h]
      rw [hpre]
      by_cases hc : [(bs s)[i], (bs s)[i + 1]] = [124, 124]
      · rw [if_pos hc, decide_eq_true hc, if_pos rfl, if_pos (by omega), if_pos (by omega), if_pos (by omega), if_pos (by omega), Int.toNat_natCast, Int.toNat_natCast, extract_mk]
        have := ih k (i + 2) (i + 2) (out ++ [mk (((bs s).drop fr).take (i - fr))]) (by omega) (by omega) (Nat.le_refl _) (by omega) (by simp; omega)
        rw [this]
        simp only [Nat.sub_self, List.take_zero, List.append_assoc, List.singleton_append, List.map_cons, List.length_cons, List.length_nil, Nat.zero_add]
        rw [List.drop_drop, show i + 1 + (1 + 1 - 1) = i + 2 by omega]
      · rw [if_neg hc, decide_eq_false hc, if_neg (by decide)]
        have := ih k fr (i + 1) out (by omega) (by omega) (by omega) (by omega) (by omega)
        rw [this, take_more (bs s) fr i hf hil]
    · rw [if_neg (by omega), if_pos (by omega), if_pos (by omega), if_pos (by omega), Int.toNat_natCast, extract_mk]
      by_cases hi2 : i = s.size
      · rw [List.drop_eq_nil_of_le (i := i) (by omega), pcsG, hi2]
        rfl
      · have hil : i < (bs s).length := by omega
        have hd := List.drop_eq_getElem_cons hil
        rw [List.drop_eq_nil_of_le (i := i + 1) (by omega)] at hd
        have hpre : List.isPrefixOf [124, 124] [(bs s)[i]] = false := by simp [List.isPrefixOf]
        rw [hd, pcsG, if_neg (by rw [hpre]; decide), pcsG, show s.size - fr = i + 1 - fr by omega, take_more (bs s) fr i hf hil]
        rfl
def altsOf (s : ByteArray) : List ByteArray := (pcsG [124, 124] [] (bs s)).map mk
theorem spec_l6Alt_eq (s : ByteArray) (hs : s.size ≤ 1000) (k : Nat) (hk : 1002 ≤ k) : spec_l6Alternatives.f k s = some (altsOf s) := by
  have := spec_l6Alt_l0 s hs s.size k 0 0 [] (by omega) (by omega) (Nat.le_refl _) (by omega) (by simp)
  unfold spec_l6Alternatives.f altsOf
  rw [List.drop_zero] at this
  simpa using this
end Go.Proofs.YthfohhpjanoimaaDoor.P
end

section
set_option linter.unusedVariables false
set_option linter.unusedSimpArgs false
namespace Go.Proofs.YthfohhpjanoimaaDoor.P
open Go.RowKit Go.Proofs.YthfohhpjanoimaaDoorW.PrintWords Go.Proofs.YthfohhpjanoimaaDoorW.PrintLast Go.Proofs.YthfohhpjanoimaaDoorM
def opsI : List ByteArray := [(⟨#[42]⟩ : ByteArray), (⟨#[33, 61]⟩ : ByteArray), (⟨#[62, 61]⟩ : ByteArray), (⟨#[60, 61]⟩ : ByteArray), (⟨#[61]⟩ : ByteArray), (⟨#[62]⟩ : ByteArray), (⟨#[60]⟩ : ByteArray), (⟨#[94]⟩ : ByteArray), (⟨#[126]⟩ : ByteArray)]
def opsS : List ByteArray := [(⟨#[62, 61]⟩ : ByteArray), (⟨#[60, 61]⟩ : ByteArray), (⟨#[33, 61]⟩ : ByteArray), (⟨#[61]⟩ : ByteArray), (⟨#[62]⟩ : ByteArray), (⟨#[60]⟩ : ByteArray), (⟨#[94]⟩ : ByteArray), (⟨#[126]⟩ : ByteArray)]
def isOp (w o : ByteArray) : Bool := (bs o).isPrefixOf (bs w)
theorem isOp_le {w o : ByteArray} (h : isOp w o = true) : o.size ≤ w.size := by
  unfold isOp at h
  rw [List.isPrefixOf_iff_prefix] at h
  have := h.length_le
  rwa [bs_length, bs_length] at this
theorem beq_prefix (w o : ByteArray) : ((w.extract 0 o.size).toList == o.toList) = isOp w o := by
  rw [toList_bs, toList_bs, bs_upto]
  unfold isOp
  rw [Bool.eq_iff_iff, beq_iff_eq, List.isPrefixOf_iff_prefix, List.prefix_iff_eq_take, bs_length]
  exact eq_comm
theorem HasPrefix_isOp (s q : ByteArray) : strings_HasPrefix.f s q = some (isOp s q) := by
  unfold strings_HasPrefix.f stringslite_HasPrefix.f
  by_cases h : q.size ≤ s.size
  · rw [if_pos (by omega), if_pos (by omega), if_pos (by omega), Option.bind_some, beq_prefix]
  · rw [if_neg (by omega), Option.bind_some]
    cases hp : isOp s q with
    | false => rfl
    | true => exact absurd (isOp_le hp) h
theorem impl_VersionOk_eq (s : ByteArray) (k : Nat) (hk : 2000 ≤ k) : impl_VersionOk.f k s = some (verOk s) := by
  unfold impl_VersionOk.f
  rw [impl_parts_eq s k hk, Option.bind_some]
  cases verOk s <;> rfl
theorem verOk_digit {s : ByteArray} (h : verOk s = true) : ∃ c r, bs s = c :: r ∧ isDb c = true := by
  unfold verOk at h
  simp only [Bool.and_eq_true, decide_eq_true_eq] at h
  obtain ⟨h1, _, h3, _⟩ := h
  have hl : 0 < (bs s).length := by rw [bs_length]; omega
  refine ⟨(bs s)[0], (bs s).drop 1, by simpa using List.drop_eq_getElem_cons hl, ?_⟩
  have := bt_nat s 0 (by omega)
  unfold isDb
  rw [← this]
  exact h3
def tO (w o : ByteArray) : Option S38 := if bs o = [42] then (if bs (w.extract o.size w.size) = [] then some ⟨o, w.extract o.size w.size⟩ else none) else if verOk (w.extract o.size w.size) = true then some ⟨o, w.extract o.size w.size⟩ else none
def tI (w : ByteArray) : Option S38 := match opsI.find? (isOp w) with
  | none => none
  | some o => tO w o
def tS (w : ByteArray) : Option S38 := if bs w = [42] then some ⟨⟨#[42]⟩, ⟨#[]⟩⟩ else match opsS.find? (fun o => decide (o.size < w.size) && (isOp w o && verOk (w.extract o.size w.size))) with
  | none => none
  | some o => some ⟨o, w.extract o.size w.size⟩
theorem rest_mk (l : List UInt8) (n : Nat) : (mk l).extract n (mk l).size = mk (l.drop n) := by
  rw [extract_mk, bs_mk, mk_size, List.take_of_length_le (by simp)]
theorem verOk_no (c : UInt8) (r : List UInt8) (h : isDb c = false) : verOk (mk (c :: r)) = false := by
  cases hv : verOk (mk (c :: r)) with
  | false => rfl
  | true =>
    obtain ⟨c', r', h1, h2⟩ := verOk_digit hv
    rw [bs_mk] at h1
    injection h1 with h1 _
    subst h1
    rw [h] at h2; cases h2
theorem verOk_none : verOk (mk []) = false := by
  cases hv : verOk (mk []) with
  | false => rfl
  | true =>
    obtain ⟨c', r', h1, h2⟩ := verOk_digit hv
    rw [bs_mk] at h1; cases h1
def opLI : List (List UInt8) := [[42], [33, 61], [62, 61], [60, 61], [61], [62], [60], [94], [126]]
def opLS : List (List UInt8) := [[62, 61], [60, 61], [33, 61], [61], [62], [60], [94], [126]]
def vL (l : List UInt8) : Bool := verOk (mk l)
def tIL (l : List UInt8) : Option (List UInt8 × List UInt8) := match opLI.find? (fun o => o.isPrefixOf l) with
  | none => none
  | some o => if o = [42] then (if l.drop o.length = [] then some (o, l.drop o.length) else none) else if vL (l.drop o.length) = true then some (o, l.drop o.length) else none
def tSL (l : List UInt8) : Option (List UInt8 × List UInt8) := if l = [42] then some ([42], []) else match opLS.find? (fun o => decide (o.length < l.length) && (o.isPrefixOf l && vL (l.drop o.length))) with
  | none => none
  | some o => some (o, l.drop o.length)
def mkT (p : List UInt8 × List UInt8) : S38 := ⟨mk p.1, mk p.2⟩
theorem tI_mk (l : List UInt8) : tI (mk l) = (tIL l).map mkT := by
  unfold tI tIL
  have h1 : opsI = opLI.map mk := rfl
  have h2 : (isOp (mk l)) ∘ mk = fun o => o.isPrefixOf l := by funext o; simp [isOp, bs_mk]
  rw [h1, List.find?_map, h2]
  cases opLI.find? (fun o => o.isPrefixOf l) with
  | none => rfl
  | some o =>
    simp only [Option.map_some]
    unfold tO vL
    rw [mk_size o, rest_mk, bs_mk, bs_mk]
    split
    · split <;> rfl
    · split <;> rfl
theorem tS_mk (l : List UInt8) : tS (mk l) = (tSL l).map mkT := by
  unfold tS tSL
  have h1 : opsS = opLS.map mk := rfl
  have h2 : (fun o => decide (o.size < (mk l).size) && (isOp (mk l) o && verOk ((mk l).extract o.size (mk l).size))) ∘ mk = fun o => decide (o.length < l.length) && (o.isPrefixOf l && vL (l.drop o.length)) := by
    funext o
    simp only [Function.comp_def, isOp, bs_mk, vL, mk_size o, rest_mk]
    rw [mk_size]
  rw [h1, List.find?_map, h2, bs_mk]
  split
  · rfl
  · cases opLS.find? (fun o => decide (o.length < l.length) && (o.isPrefixOf l && vL (l.drop o.length))) with
    | none => rfl
    | some o =>
      simp only [Option.map_some, mk_size o, rest_mk]
      rfl
theorem vL_nil : vL [] = false := verOk_none
theorem vL_no {c : UInt8} (r : List UInt8) (h : isDb c = false) : vL (c :: r) = false := verOk_no c r h
theorem vL_61 (r : List UInt8) : vL (61 :: r) = false := vL_no r (by decide)
theorem tIL_eq (l : List UInt8) : tIL l = tSL l := by
  unfold tIL tSL opLI opLS
  cases l with
  | nil => simp [List.find?, List.isPrefixOf]
  | cons a r =>
    by_cases h42 : a = 42
    · subst h42
      cases r with
      | nil => simp [List.find?, List.isPrefixOf]
      | cons b r => simp [List.find?, List.isPrefixOf]
    · by_cases h62 : a = 62
      · subst h62
        cases r with
        | nil => simp [List.find?, List.isPrefixOf, vL_nil]
        | cons b r =>
          by_cases hb : b = 61
          · subst hb
            cases r with
            | nil => simp [List.find?, List.isPrefixOf, vL_nil, vL_61]
            | cons c r => cases hv : vL (c :: r) <;> simp [List.find?, List.isPrefixOf, vL_61, hv]
          · have hb2 : ((61 : UInt8) == b) = false := by simpa using fun h => hb h.symm
            cases hv : vL (b :: r) <;> simp [List.find?, List.isPrefixOf, hv, hb2]
      · by_cases h60 : a = 60
        · subst h60
          cases r with
          | nil => simp [List.find?, List.isPrefixOf, vL_nil]
          | cons b r =>
            by_cases hb : b = 61
            · subst hb
              cases r with
              | nil => simp [List.find?, List.isPrefixOf, vL_nil, vL_61]
              | cons c r => cases hv : vL (c :: r) <;> simp [List.find?, List.isPrefixOf, vL_61, hv]
            · have hb2 : ((61 : UInt8) == b) = false := by simpa using fun h => hb h.symm
              cases hv : vL (b :: r) <;> simp [List.find?, List.isPrefixOf, hv, hb2]
        · by_cases h33 : a = 33
          · subst h33
            cases r with
            | nil => simp [List.find?, List.isPrefixOf, vL_nil]
            | cons b r =>
              by_cases hb : b = 61
              · subst hb
                cases r with
                | nil => simp [List.find?, List.isPrefixOf, vL_nil, vL_61]
                | cons c r => cases hv : vL (c :: r) <;> simp [List.find?, List.isPrefixOf, vL_61, hv]
              · have hb2 : ((61 : UInt8) == b) = false := by simpa using fun h => hb h.symm
                cases hv : vL (b :: r) <;> simp [List.find?, List.isPrefixOf, hv, hb2]
          · have g42 : ((42 : UInt8) == a) = false := by simpa using fun h => h42 h.symm
            have g62 : ((62 : UInt8) == a) = false := by simpa using fun h => h62 h.symm
            have g60 : ((60 : UInt8) == a) = false := by simpa using fun h => h60 h.symm
            have g33 : ((33 : UInt8) == a) = false := by simpa using fun h => h33 h.symm
            have one : ∀ r : List UInt8, r = [] ∨ ∃ b q, r = b :: q := fun r => by cases r with | nil => exact .inl rfl | cons b q => exact .inr ⟨b, q, rfl⟩
            by_cases h61 : a = 61
            · subst h61
              rcases one r with rfl | ⟨b, q, rfl⟩
              · simp [List.find?, List.isPrefixOf, vL_nil]
              · cases hv : vL (b :: q) <;> simp [List.find?, List.isPrefixOf, hv]
            · by_cases h94 : a = 94
              · subst h94
                rcases one r with rfl | ⟨b, q, rfl⟩
                · simp [List.find?, List.isPrefixOf, vL_nil]
                · cases hv : vL (b :: q) <;> simp [List.find?, List.isPrefixOf, hv]
              · by_cases h126 : a = 126
                · subst h126
                  rcases one r with rfl | ⟨b, q, rfl⟩
                  · simp [List.find?, List.isPrefixOf, vL_nil]
                  · cases hv : vL (b :: q) <;> simp [List.find?, List.isPrefixOf, hv]
                · have g61 : ((61 : UInt8) == a) = false := by simpa using fun h => h61 h.symm
                  have g94 : ((94 : UInt8) == a) = false := by simpa using fun h => h94 h.symm
                  have g126 : ((126 : UInt8) == a) = false := by simpa using fun h => h126 h.symm
                  simp [List.find?, List.isPrefixOf, g42, g62, g60, g33, g61, g94, g126, h42]
theorem tI_eq_tS (w : ByteArray) : tI w = tS w := by
  rw [← mk_bs w, tI_mk, tS_mk, tIL_eq]
theorem spec_l6Term_l0 (w : ByteArray) (hw : w.size ≤ 1000) (ops : List ByteArray) (hl : ops.length ≤ 100) : ∀ (n k i : Nat), n + 4200 ≤ k → i + n = ops.length →
    spec_l6Term.l0 k w ops (i : Int) = some (match (ops.drop i).find? (fun o => decide (o.size < w.size) && (isOp w o && verOk (w.extract o.size w.size))) with
      | none => (⟨#[]⟩, ⟨#[]⟩, false)
      | some o => (o, w.extract o.size w.size, true)) := by
  intro n
  induction n with
  | zero =>
    intro k i hk hi
    obtain ⟨k, rfl⟩ : ∃ k', k = k' + 1 := ⟨k - 1, by omega⟩
    rw [spec_l6Term.l0, if_neg (by omega), List.drop_eq_nil_of_le (by omega)]
    rfl
  | succ n ih =>
    intro k i hk hi
    obtain ⟨k, rfl⟩ : ∃ k', k = k' + 1 := ⟨k - 1, by omega⟩
    have hw1 : wrap64 ((i : Int) + 1) = ((i + 1 : Nat) : Int) := by rw [wrap64_id (by omega) (by omega)]; omega
    have hlt : i < ops.length := by omega
    have hr : rdOf ByteArray.empty ops (i : Int) = ops[i] := by simp [rdOf, List.getD_eq_getElem?_getD, List.getElem?_eq_getElem hlt]
    have ihn := ih k (i + 1) (by omega) (by omega)
    rw [spec_l6Term.l0, if_pos (by omega), if_pos (by omega), hr, hw1, List.drop_eq_getElem_cons hlt, List.find?_cons]
    by_cases h1 : ops[i].size < w.size
    · rw [if_pos (by omega), if_pos (by omega), if_pos (by omega), decide_eq_true h1, Bool.true_and]
      cases h2 : isOp w ops[i] with
      | false =>
        have : ¬ (w.extract 0 ops[i].size).toList = ops[i].toList := fun h => by rw [← beq_prefix, h] at h2; simp at h2
        rw [if_neg this, ihn, Bool.false_and]
      | true =>
        have : (w.extract 0 ops[i].size).toList = ops[i].toList := by rw [← beq_prefix] at h2; exact beq_iff_eq.1 h2
        rw [if_pos this, spec_VersionOk_eq _ k (by omega), Option.bind_some, Bool.true_and]
        cases h3 : verOk (w.extract ops[i].size w.size) with
        | false => rw [if_neg (by decide), ihn]
        | true => rw [if_pos rfl]
    · rw [if_neg (by omega), ihn, decide_eq_false h1, Bool.false_and]
theorem spec_l6Term_eq (w : ByteArray) (hw : w.size ≤ 1000) (k : Nat) (hk : 4400 ≤ k) : spec_l6Term.f k w = some (match tS w with
      | none => (⟨#[]⟩, ⟨#[]⟩, false)
      | some t => (t.f0, t.f1, true)) := by
  unfold spec_l6Term.f tS
  rw [toList_bs]
  by_cases h : bs w = [42]
  · rw [if_pos h, if_pos h]
  · rw [if_neg h, if_neg h]
    unfold spec_l6Ops.f
    have := spec_l6Term_l0 w hw opsS (by decide) 8 k 0 (by omega) (by decide)
    rw [Option.bind_some]
    rw [show ((0 : Nat) : Int) = 0 from rfl, List.drop_zero] at this
    refine this.trans ?_
    cases opsS.find? (fun o => decide (o.size < w.size) && (isOp w o && verOk (w.extract o.size w.size))) <;> rfl
end Go.Proofs.YthfohhpjanoimaaDoor.P
end

section
set_option linter.unusedVariables false
set_option linter.unusedSimpArgs false
namespace Go.Proofs.YthfohhpjanoimaaDoor.P
open Go.RowKit Go.Proofs.YthfohhpjanoimaaDoorW.PrintWords Go.Proofs.YthfohhpjanoimaaDoorW.PrintLast Go.Proofs.YthfohhpjanoimaaDoorM
def allT {α β : Type} (f : α → Option β) : List α → Option (List β)
  | [] => some []
  | a :: l => match f a with
    | none => none
    | some b => (allT f l).map (b :: ·)
theorem allT_length {α β : Type} (f : α → Option β) : ∀ (l : List α) (r : List β), allT f l = some r → r.length = l.length
  | [], r, h => by rw [allT] at h; obtain rfl := Option.some.inj h; rfl
  | a :: l, r, h => by
    rw [allT] at h
    split at h
    · cases h
    · obtain ⟨q, hq, rfl⟩ := Option.map_eq_some_iff.mp h
      simp [allT_length f l q hq]
def isStar (t : S38) : Bool := decide (bs t.f0 = [42])
def altOf (a : ByteArray) : Option (List S38) := match allT tI (wordsOf a) with
  | none => none
  | some ts => if ts = [] then none else if 1 < ts.length ∧ ts.any isStar = true then none else some ts
def rcOf (s : ByteArray) : Option (List (List S38)) := if s.size > 200 then none else allT altOf (altsOf s)
def rcAns (acc : List (List S38)) : Option (List (List S38)) → List (List S38) × Bool
  | none => ([], false)
  | some cs => (acc ++ cs, true)
def fil (l : List ByteArray) : List ByteArray := l.filter (fun x => decide (bs x ≠ []))
def piecesOf (a : ByteArray) : List ByteArray := (pcsG [32] [] (bs a)).map mk
theorem wordsOf_fil (a : ByteArray) : wordsOf a = fil (piecesOf a) := by
  unfold wordsOf fil piecesOf
  rw [List.filter_map]
  have : (fun x => decide (bs x ≠ [])) ∘ mk = fun x : List UInt8 => decide (x ≠ []) := by funext x; simp [bs_mk]
  rw [this]
theorem rd_at (l : List ByteArray) (i : Nat) (h : i < l.length) : rdOf ByteArray.empty l (i : Int) = l[i] := by simp [rdOf, List.getD_eq_getElem?_getD, List.getElem?_eq_getElem h]
theorem any_q (l : List S38) : impl_Term.f l = some (l.any isStar) := by
  unfold impl_Term.f
  congr 2
  funext e
  unfold impl_Term.q isStar
  rw [toList_bs]
  by_cases h : bs e.f0 = [42]
  · rw [h]; rfl
  · rw [decide_eq_false h]; simpa using h
def contI (k : Nat) (x4 : List (List S38)) (x17 : List ByteArray) (x18 x19 : Int) (l : List S38) : Option (List (List S38) × Bool) :=
  if (l.length : Int) = 0 then (some (([] : List (List (S38))), false)) else (if (l.length : Int) > 1 then ((impl_Term.f l).bind fun t211 => (if t211 = true then (some (([] : List (List (S38))), false)) else (if x4.length < 5864062014805 then (impl_ReadConstraint.l0 k (x4 ++ [l]) x17 x18 (wrap64 (x19 + 1))) else (none)))) else (if x4.length < 5864062014805 then (impl_ReadConstraint.l0 k (x4 ++ [l]) x17 x18 (wrap64 (x19 + 1))) else (none)))
theorem impl_RC_l2 (x4 : List (List S38)) (acc : List S38) (ha : acc.length ≤ 1000) (w : ByteArray) (hw : w.size ≤ 1000) (x17 : List ByteArray) (x18 x19 : Int) (xs : List ByteArray) (x26 : Int) (ops : List ByteArray) (hl : ops.length ≤ 100) (hne : ∀ o ∈ ops, bs o ≠ []) :
    ∀ (n q B : Nat) (r : List (List S38) × Bool), 3000 ≤ B → q + n = ops.length →
    (match (ops.drop q).find? (isOp w) with
      | none => r = ([], false)
      | some o => match tO w o with
        | none => r = ([], false)
        | some t => ∀ k, B ≤ k → impl_ReadConstraint.l1 k x4 (acc ++ [t]) x17 x18 x19 xs (xs.length : Int) (wrap64 (x26 + 1)) = some r) →
    ∀ k, B + n + 1 ≤ k → impl_ReadConstraint.l2 k x4 acc w x17 x18 x19 xs (xs.length : Int) x26 ops (ops.length : Int) (q : Int) (⟨#[]⟩ : ByteArray) (⟨#[]⟩ : ByteArray) = some r := by
  intro n
  induction n with
  | zero =>
    intro q B r hB hq h k hk
    obtain ⟨k, rfl⟩ : ∃ k', k = k' + 1 := ⟨k - 1, by omega⟩
    rw [List.drop_eq_nil_of_le (by omega)] at h
    have h : r = ([], false) := h
    rw [impl_ReadConstraint.l2, if_neg (by omega), if_pos (by rw [toList_bs]; rfl), h]
  | succ n ih =>
    intro q B r hB hq h k hk
    obtain ⟨k, rfl⟩ : ∃ k', k = k' + 1 := ⟨k - 1, by omega⟩
    have hw1 : wrap64 ((q : Int) + 1) = ((q + 1 : Nat) : Int) := by rw [wrap64_id (by omega) (by omega)]; omega
    have hlt : q < ops.length := by omega
    have hr := rd_at ops q hlt
    rw [List.drop_eq_getElem_cons hlt, List.find?_cons] at h
    rw [impl_ReadConstraint.l2, if_pos (by omega), if_pos (by omega), if_pos (by omega), hr, HasPrefix_isOp, Option.bind_some, hw1]
    cases hp : isOp w ops[q] with
    | false =>
      rw [hp] at h
      rw [if_neg (by decide)]
      exact ih (q + 1) B r hB (by omega) h k (by omega)
    | true =>
      have hle := isOp_le hp
      have hn0 : ¬ (ops[q].toList = []) := by rw [toList_bs]; exact hne _ (List.getElem_mem hlt)
      rw [hp] at h
      simp only [] at h
      unfold tO at h
      rw [if_pos rfl, if_pos (by omega), if_pos (by omega), if_neg hn0, toList_bs, toList_bs]
      by_cases hs : bs ops[q] = [42]
      · rw [if_pos hs] at h
        rw [if_pos hs]
        by_cases hv : bs (w.extract ops[q].size w.size) = []
        · rw [if_pos hv] at h
          rw [if_pos hv, if_pos (by omega)]
          exact h k (by omega)
        · rw [if_neg hv] at h
          rw [if_neg hv]
          have h : r = ([], false) := h
          rw [h]
      · rw [if_neg hs] at h
        rw [if_neg hs, impl_VersionOk_eq _ k (by omega), Option.bind_some]
        cases hv : verOk (w.extract ops[q].size w.size) with
        | true =>
          rw [if_pos hv] at h
          rw [if_pos rfl, if_pos (by omega)]
          exact h k (by omega)
        | false =>
          rw [if_neg (by rw [hv]; decide)] at h
          rw [if_neg (by decide)]
          have h : r = ([], false) := h
          rw [h]
theorem impl_RC_l1 (x4 : List (List S38)) (x17 : List ByteArray) (x18 x19 : Int) (xs : List ByteArray) (hl : xs.length ≤ 500) (hz : ∀ x ∈ xs, x.size ≤ 1000) :
    ∀ (n j B : Nat) (acc : List S38) (r : List (List S38) × Bool), 3000 ≤ B → j + n = xs.length → acc.length ≤ j →
    (match allT tI (fil (xs.drop j)) with
      | none => r = ([], false)
      | some ts => ∀ k, B ≤ k → contI k x4 x17 x18 x19 (acc ++ ts) = some r) →
    ∀ k, B + 12 * n + 1 ≤ k → impl_ReadConstraint.l1 k x4 acc x17 x18 x19 xs (xs.length : Int) (j : Int) = some r := by
  intro n
  induction n with
  | zero =>
    intro j B acc r hB hj ha h k hk
    obtain ⟨k, rfl⟩ : ∃ k', k = k' + 1 := ⟨k - 1, by omega⟩
    rw [List.drop_eq_nil_of_le (by omega)] at h
    have h : ∀ k, B ≤ k → contI k x4 x17 x18 x19 (acc ++ []) = some r := h
    rw [impl_ReadConstraint.l1, if_neg (by omega)]
    have := h k (by omega)
    rwa [List.append_nil] at this
  | succ n ih =>
    intro j B acc r hB hj ha h k hk
    obtain ⟨k, rfl⟩ : ∃ k', k = k' + 1 := ⟨k - 1, by omega⟩
    have hw1 : wrap64 ((j : Int) + 1) = ((j + 1 : Nat) : Int) := by rw [wrap64_id (by omega) (by omega)]; omega
    have hlt : j < xs.length := by omega
    have hr := rd_at xs j hlt
    rw [List.drop_eq_getElem_cons hlt] at h
    unfold fil at h
    rw [List.filter_cons] at h
    rw [impl_ReadConstraint.l1, if_pos (by omega), if_pos (by omega), if_pos (by omega), hr, hw1, toList_bs]
    by_cases h0 : bs xs[j] = []
    · rw [if_neg (by simpa using h0)] at h
      rw [if_pos h0]
      exact ih (j + 1) B acc r hB (by omega) (by omega) h k (by omega)
    · rw [if_pos (by simpa using h0), allT] at h
      rw [if_neg h0, Option.bind_some]
      have h2 := impl_RC_l2 x4 acc (by omega) xs[j] (hz _ (List.getElem_mem hlt)) x17 x18 x19 xs (j : Int) opsI (by decide) (by decide) 9 0 (B + 12 * n + 1) r (by omega) (by decide)
      refine h2 ?_ k (by omega)
      rw [List.drop_zero]
      have htI : tI xs[j] = match opsI.find? (isOp xs[j]) with
        | none => none
        | some o => tO xs[j] o := rfl
      cases hf : opsI.find? (isOp xs[j]) with
      | none =>
        rw [hf] at htI
        rw [htI] at h
        exact h
      | some o =>
        rw [hf] at htI
        simp only [] at htI ⊢
        rw [htI] at h
        cases ht : tO xs[j] o with
        | none => rw [ht] at h; exact h
        | some t =>
          rw [ht] at h
          simp only [] at h ⊢
          intro k' hk'
          rw [hw1]
          refine ih (j + 1) B (acc ++ [t]) r hB (by omega) (by rw [List.length_append, List.length_singleton]; omega) ?_ k' hk'
          unfold fil
          cases hr2 : allT tI ((xs.drop (j + 1)).filter (fun x => decide (bs x ≠ []))) with
          | none => rw [hr2] at h; exact h
          | some ts =>
            rw [hr2] at h
            simp only [Option.map_some] at h
            intro k2 hk2
            rw [List.append_assoc, List.singleton_append]
            exact h k2 hk2
theorem pieces_ok (a : ByteArray) (ha : a.size ≤ 200) : (piecesOf a).length ≤ 500 ∧ ∀ x ∈ piecesOf a, x.size ≤ 1000 := by
  unfold piecesOf
  constructor
  · rw [List.length_map]
    have := pcsG_length [32] _ (bs a) [] (Nat.le_refl _)
    rw [bs_length] at this
    omega
  · intro x hx
    obtain ⟨l, hl, rfl⟩ := List.mem_map.1 hx
    have := pcsG_sizes [32] _ (bs a) [] (Nat.le_refl _) l hl
    rw [bs_length, List.length_nil] at this
    rw [mk_size]
    omega
theorem impl_RC_l0 (cs : List ByteArray) (hl : cs.length ≤ 500) (hz : ∀ x ∈ cs, x.size ≤ 200) : ∀ (n i : Nat) (acc : List (List S38)), i + n = cs.length → acc.length ≤ i →
    ∀ k, 7000 * n + 3001 ≤ k → impl_ReadConstraint.l0 k acc cs (cs.length : Int) (i : Int) = some (rcAns acc (allT altOf (cs.drop i))) := by
  intro n
  induction n with
  | zero =>
    intro i acc hi ha k hk
    obtain ⟨k, rfl⟩ : ∃ k', k = k' + 1 := ⟨k - 1, by omega⟩
    rw [impl_ReadConstraint.l0, if_neg (by omega), List.drop_eq_nil_of_le (by omega)]
    simp [allT, rcAns]
  | succ n ih =>
    intro i acc hi ha k hk
    obtain ⟨k, rfl⟩ : ∃ k', k = k' + 1 := ⟨k - 1, by omega⟩
    have hw1 : wrap64 ((i : Int) + 1) = ((i + 1 : Nat) : Int) := by rw [wrap64_id (by omega) (by omega)]; omega
    have hlt : i < cs.length := by omega
    have hsz := hz _ (List.getElem_mem hlt)
    obtain ⟨hp1, hp2⟩ := pieces_ok cs[i] hsz
    rw [impl_ReadConstraint.l0, if_pos (by omega), if_pos (by omega), if_pos (by omega), rd_at cs i hlt, Split_eq _ _ (by omega) (by decide), Option.bind_some]
    change impl_ReadConstraint.l1 k acc [] cs (cs.length : Int) (i : Int) (piecesOf cs[i]) ((piecesOf cs[i]).length : Int) ((0 : Nat) : Int) = _
    refine impl_RC_l1 acc cs (cs.length : Int) (i : Int) (piecesOf cs[i]) hp1 hp2 (piecesOf cs[i]).length 0 (7000 * n + 3001) [] _ (by omega) (by omega) (by simp) ?_ k (by omega)
    rw [List.drop_zero, ← wordsOf_fil, List.drop_eq_getElem_cons hlt, allT]
    cases h1 : allT tI (wordsOf cs[i]) with
    | none =>
      have hal : altOf cs[i] = none := by unfold altOf; rw [h1]
      rw [hal]
      rfl
    | some ts =>
      simp only [List.nil_append]
      intro k2 hk2
      unfold contI
      rw [any_q, Option.bind_some, hw1]
      by_cases h2 : ts = []
      · have hal : altOf cs[i] = none := by unfold altOf; rw [h1]; exact if_pos h2
        rw [hal, if_pos (by rw [h2]; rfl)]
        rfl
      · have h3 : ts.length ≠ 0 := fun h => h2 (List.length_eq_zero_iff.1 h)
        have hgo : impl_ReadConstraint.l0 k2 (acc ++ [ts]) cs (cs.length : Int) ((i + 1 : Nat) : Int) = some (rcAns acc ((allT altOf (cs.drop (i + 1))).map (ts :: ·))) := by
          rw [ih (i + 1) (acc ++ [ts]) (by omega) (by simp; omega) k2 (by omega)]
          cases allT altOf (cs.drop (i + 1)) <;> simp [rcAns]
        rw [if_neg (show ¬ ((ts.length : Int) = 0) by omega)]
        by_cases h4 : 1 < ts.length
        · rw [if_pos (show (ts.length : Int) > 1 by omega)]
          cases h5 : ts.any isStar with
          | true =>
            have hal : altOf cs[i] = none := by unfold altOf; rw [h1]; exact (if_neg h2).trans (if_pos ⟨h4, h5⟩)
            rw [hal, if_pos rfl]
            rfl
          | false =>
            have hal : altOf cs[i] = some ts := by unfold altOf; rw [h1]; exact (if_neg h2).trans (if_neg (by rintro ⟨_, h⟩; rw [h5] at h; cases h))
            rw [if_neg (show ¬ (false = true) by decide), if_pos (show acc.length < 5864062014805 by omega)]
            rw [hal]
            exact hgo
        · have hal : altOf cs[i] = some ts := by unfold altOf; rw [h1]; exact (if_neg h2).trans (if_neg (by rintro ⟨h, _⟩; exact h4 h))
          rw [if_neg (show ¬ ((ts.length : Int) > 1) by omega), if_pos (show acc.length < 5864062014805 by omega)]
          rw [hal]
          exact hgo
theorem alts_ok (s : ByteArray) (hs : s.size ≤ 200) : (altsOf s).length ≤ 201 ∧ ∀ x ∈ altsOf s, x.size ≤ 200 := by
  unfold altsOf
  constructor
  · rw [List.length_map]
    have := pcsG_length [124, 124] _ (bs s) [] (Nat.le_refl _)
    rw [bs_length] at this
    omega
  · intro x hx
    obtain ⟨l, hl, rfl⟩ := List.mem_map.1 hx
    have := pcsG_sizes [124, 124] _ (bs s) [] (Nat.le_refl _) l hl
    rw [bs_length, List.length_nil] at this
    rw [mk_size]
    omega
theorem impl_ReadConstraint_eq (s : ByteArray) (k : Nat) (hk : 1500000 ≤ k) : impl_ReadConstraint.f k s = some (rcAns [] (rcOf s)) := by
  unfold impl_ReadConstraint.f rcOf
  by_cases h : s.size > 200
  · rw [if_pos (by omega), if_pos h]; rfl
  · obtain ⟨h1, h2⟩ := alts_ok s (by omega)
    rw [if_neg (by omega), if_neg h, Split_eq _ _ (by omega) (by decide), Option.bind_some]
    have := impl_RC_l0 (altsOf s) (by omega) h2 (altsOf s).length 0 [] (by omega) (by simp) k (by omega)
    rw [List.drop_zero] at this
    exact this
def contS (k : Nat) (x4 x5 : List (List S38)) (x6 : List ByteArray) (x7 : Int) (l : List S38) : Option (List (List S38) × Bool) :=
  if (l.length : Int) = 0 then (some (x4, false)) else (if x5.length < 5864062014805 then (spec_ReadConstraint.l0 k x4 (x5 ++ [l]) x6 (wrap64 (x7 + 1))) else (none))
theorem spec_RC_l1 (x4 x5 : List (List S38)) (x6 : List ByteArray) (x7 : Int) (ws : List ByteArray) (hl : ws.length ≤ 500) (hz : ∀ x ∈ ws, x.size ≤ 1000) :
    ∀ (n j B : Nat) (acc : List S38) (r : List (List S38) × Bool), 4400 ≤ B → j + n = ws.length → acc.length ≤ j →
    (match allT tI (ws.drop j) with
      | none => r = (x4, false)
      | some ts => if 1 < ws.length ∧ ts.any isStar = true then r = (x4, false) else ∀ k, B ≤ k → contS k x4 x5 x6 x7 (acc ++ ts) = some r) →
    ∀ k, B + n + 1 ≤ k → spec_ReadConstraint.l1 k x4 x5 x6 x7 ws acc (j : Int) = some r := by
  intro n
  induction n with
  | zero =>
    intro j B acc r hB hj ha h k hk
    obtain ⟨k, rfl⟩ : ∃ k', k = k' + 1 := ⟨k - 1, by omega⟩
    rw [List.drop_eq_nil_of_le (by omega), allT] at h
    simp only [List.any_nil, Bool.false_eq_true, and_false, if_false, List.append_nil] at h
    rw [spec_ReadConstraint.l1, if_neg (by omega)]
    exact h k (by omega)
  | succ n ih =>
    intro j B acc r hB hj ha h k hk
    obtain ⟨k, rfl⟩ : ∃ k', k = k' + 1 := ⟨k - 1, by omega⟩
    have hw1 : wrap64 ((j : Int) + 1) = ((j + 1 : Nat) : Int) := by rw [wrap64_id (by omega) (by omega)]; omega
    have hlt : j < ws.length := by omega
    have hr := rd_at ws j hlt
    rw [List.drop_eq_getElem_cons hlt, allT, tI_eq_tS] at h
    rw [spec_ReadConstraint.l1, if_pos (by omega), if_pos (by omega), hr, hw1, spec_l6Term_eq _ (hz _ (List.getElem_mem hlt)) k (by omega), Option.bind_some]
    cases ht : tS ws[j] with
    | none =>
      rw [ht] at h
      have h : r = (x4, false) := h
      simp only [Bool.false_eq_true, if_false]
      rw [h]
    | some t =>
      rw [ht] at h
      simp only [if_true] at h ⊢
      rw [toList_bs]
      have hnext : (¬ (1 < ws.length ∧ isStar t = true)) → spec_ReadConstraint.l1 k x4 x5 x6 x7 ws (acc ++ [t]) ((j + 1 : Nat) : Int) = some r := fun hns => by
        refine ih (j + 1) B (acc ++ [t]) r hB (by omega) (by rw [List.length_append, List.length_singleton]; omega) ?_ k (by omega)
        cases hr2 : allT tI (ws.drop (j + 1)) with
        | none => rw [hr2] at h; exact h
        | some ts =>
          rw [hr2] at h
          simp only [Option.map_some] at h
          simp only []
          by_cases hs2 : 1 < ws.length ∧ ts.any isStar = true
          · rw [if_pos ⟨hs2.1, by rw [List.any_cons, hs2.2, Bool.or_true]⟩] at h
            rw [if_pos hs2]
            exact h
          · rw [if_neg (by
              rintro ⟨g1, g2⟩
              rw [List.any_cons, Bool.or_eq_true] at g2
              rcases g2 with g2 | g2
              · exact hns ⟨g1, g2⟩
              · exact hs2 ⟨g1, g2⟩)] at h
            rw [if_neg hs2]
            intro k2 hk2
            rw [List.append_assoc, List.singleton_append]
            exact h k2 hk2
      by_cases hst : bs t.f0 = [42]
      · have hst2 : isStar t = true := decide_eq_true hst
        rw [if_pos hst]
        by_cases hgt : 1 < ws.length
        · rw [if_pos (by omega)]
          cases hr2 : allT tI (ws.drop (j + 1)) with
          | none => rw [hr2] at h; have h : r = (x4, false) := h; rw [h]
          | some ts =>
            rw [hr2] at h
            simp only [Option.map_some] at h
            rw [if_pos ⟨hgt, by rw [List.any_cons, hst2, Bool.true_or]⟩] at h
            rw [h]
        · rw [if_neg (by omega), if_pos (by omega)]
          exact hnext (fun g => hgt g.1)
      · rw [if_neg hst, if_pos (by omega)]
        exact hnext (fun g => hst (of_decide_eq_true g.2))
theorem words_ok (a : ByteArray) (ha : a.size ≤ 200) : (wordsOf a).length ≤ 500 ∧ ∀ x ∈ wordsOf a, x.size ≤ 1000 := by
  obtain ⟨h1, h2⟩ := pieces_ok a ha
  rw [wordsOf_fil]
  unfold fil
  exact ⟨Nat.le_trans (List.length_filter_le _ _) h1, fun x hx => h2 x (List.mem_filter.1 hx).1⟩
theorem spec_RC_l0 (cs : List ByteArray) (hl : cs.length ≤ 500) (hz : ∀ x ∈ cs, x.size ≤ 200) : ∀ (n i : Nat) (acc : List (List S38)), i + n = cs.length → acc.length ≤ i →
    ∀ k, 7000 * n + 4401 ≤ k → spec_ReadConstraint.l0 k [] acc cs (i : Int) = some (rcAns acc (allT altOf (cs.drop i))) := by
  intro n
  induction n with
  | zero =>
    intro i acc hi ha k hk
    obtain ⟨k, rfl⟩ : ∃ k', k = k' + 1 := ⟨k - 1, by omega⟩
    rw [spec_ReadConstraint.l0, if_neg (by omega), List.drop_eq_nil_of_le (by omega)]
    simp [allT, rcAns]
  | succ n ih =>
    intro i acc hi ha k hk
    obtain ⟨k, rfl⟩ : ∃ k', k = k' + 1 := ⟨k - 1, by omega⟩
    have hw1 : wrap64 ((i : Int) + 1) = ((i + 1 : Nat) : Int) := by rw [wrap64_id (by omega) (by omega)]; omega
    have hlt : i < cs.length := by omega
    have hsz := hz _ (List.getElem_mem hlt)
    obtain ⟨hp1, hp2⟩ := words_ok cs[i] hsz
    rw [spec_ReadConstraint.l0, if_pos (by omega), if_pos (by omega), rd_at cs i hlt, spec_l6Words_eq _ (by omega) k (by omega), Option.bind_some]
    change spec_ReadConstraint.l1 k [] acc cs (i : Int) (wordsOf cs[i]) [] ((0 : Nat) : Int) = _
    refine spec_RC_l1 [] acc cs (i : Int) (wordsOf cs[i]) hp1 hp2 (wordsOf cs[i]).length 0 (7000 * n + 4401) [] _ (by omega) (by omega) (by simp) ?_ k (by omega)
    rw [List.drop_zero, List.drop_eq_getElem_cons hlt, allT]
    cases h1 : allT tI (wordsOf cs[i]) with
    | none =>
      have hal : altOf cs[i] = none := by unfold altOf; rw [h1]
      rw [hal]
      rfl
    | some ts =>
      have htl := allT_length tI _ _ h1
      simp only [List.nil_append]
      by_cases h2 : ts = []
      · have hal : altOf cs[i] = none := by unfold altOf; rw [h1]; exact if_pos h2
        rw [hal, if_neg (by rintro ⟨_, h⟩; rw [h2] at h; cases h)]
        intro k2 hk2
        unfold contS
        rw [if_pos (by rw [h2]; rfl)]
        rfl
      · have h3 : ts.length ≠ 0 := fun h => h2 (List.length_eq_zero_iff.1 h)
        rw [← htl]
        by_cases h4 : 1 < ts.length ∧ ts.any isStar = true
        · have hal : altOf cs[i] = none := by unfold altOf; rw [h1]; exact (if_neg h2).trans (if_pos h4)
          rw [hal, if_pos h4]
          rfl
        · have hal : altOf cs[i] = some ts := by unfold altOf; rw [h1]; exact (if_neg h2).trans (if_neg h4)
          rw [hal, if_neg h4]
          intro k2 hk2
          unfold contS
          rw [if_neg (show ¬ ((ts.length : Int) = 0) by omega), if_pos (show acc.length < 5864062014805 by omega), hw1, ih (i + 1) (acc ++ [ts]) (by omega) (by simp; omega) k2 (by omega)]
          simp only []
          cases allT altOf (cs.drop (i + 1)) <;> simp [rcAns]
theorem spec_ReadConstraint_eq (s : ByteArray) (k : Nat) (hk : 1500000 ≤ k) : spec_ReadConstraint.f k s = some (rcAns [] (rcOf s)) := by
  unfold spec_ReadConstraint.f rcOf
  rw [Option.bind_some]
  by_cases h : s.size > 200
  · rw [if_pos (by omega), if_pos h]; rfl
  · obtain ⟨h1, h2⟩ := alts_ok s (by omega)
    rw [if_neg (by omega), if_neg h, spec_l6Alt_eq _ (by omega) k (by omega), Option.bind_some]
    have := spec_RC_l0 (altsOf s) (by omega) h2 (altsOf s).length 0 [] (by omega) (by simp) k (by omega)
    rw [List.drop_zero] at this
    exact this
end Go.Proofs.YthfohhpjanoimaaDoor.P
end

section
set_option linter.unusedVariables false
set_option linter.unusedSimpArgs false
namespace Go.Proofs.YthfohhpjanoimaaDoor.P
open Go.RowKit Go.Proofs.YthfohhpjanoimaaDoorW.PrintWords Go.Proofs.YthfohhpjanoimaaDoorW.PrintLast Go.Proofs.YthfohhpjanoimaaDoorM
end Go.Proofs.YthfohhpjanoimaaDoor.P
end

section
set_option linter.unusedVariables false
set_option linter.unusedSimpArgs false
namespace Go.Proofs.YthfohhpjanoimaaDoor.P
open Go.RowKit Go.Proofs.YthfohhpjanoimaaDoorW.PrintWords Go.Proofs.YthfohhpjanoimaaDoorW.PrintLast Go.Proofs.YthfohhpjanoimaaDoorM
theorem rd_alts (c : List (List S38)) (i : Nat) (h : i < c.length) : rd_L4 c (i : Int) = c[i] := by simp [rd_L4, List.getD_eq_getElem?_getD, List.getElem?_eq_getElem h]
end Go.Proofs.YthfohhpjanoimaaDoor.P
end

section
set_option linter.unusedVariables false
set_option linter.unusedSimpArgs false
namespace Go.Proofs.YthfohhpjanoimaaDoor.P
open Go.RowKit Go.Proofs.YthfohhpjanoimaaDoorW.PrintWords Go.Proofs.YthfohhpjanoimaaDoorW.PrintLast Go.Proofs.YthfohhpjanoimaaDoorM
end Go.Proofs.YthfohhpjanoimaaDoor.P
end

section
set_option linter.unusedVariables false
set_option linter.unusedSimpArgs false
namespace Go.Proofs.YthfohhpjanoimaaDoor.P
open Go.RowKit Go.Proofs.YthfohhpjanoimaaDoorW.PrintWords Go.Proofs.YthfohhpjanoimaaDoorW.PrintLast Go.Proofs.YthfohhpjanoimaaDoorM
theorem eqTermS_l0 (t : List S38) (hl : t.length ≤ 1048576) : ∀ (n k i : Nat), n + 1 ≤ k → i + n = t.length → laws_eqTermS.l0 k t t (i : Int) = some true := by
  intro n
  induction n with
  | zero =>
    intro k i hk hi
    obtain ⟨k, rfl⟩ : ∃ k', k = k' + 1 := ⟨k - 1, by omega⟩
    rw [laws_eqTermS.l0, if_neg (by omega)]
  | succ n ih =>
    intro k i hk hi
    obtain ⟨k, rfl⟩ : ∃ k', k = k' + 1 := ⟨k - 1, by omega⟩
    have hw : wrap64 ((i : Int) + 1) = ((i + 1 : Nat) : Int) := by rw [wrap64_id (by omega) (by omega)]; omega
    rw [laws_eqTermS.l0, if_pos (by omega), if_pos (by omega), if_pos (by omega), hw]
    unfold laws_eqTerm.f
    rw [if_pos rfl, if_pos rfl, Option.bind_some, if_pos rfl]
    exact ih k (i + 1) (by omega) (by omega)
theorem eqTermS_refl (t : List S38) (hl : t.length ≤ 1048576) (k : Nat) (hk : 1048577 ≤ k) : laws_eqTermS.f k t t = some true := by
  unfold laws_eqTermS.f
  rw [if_pos rfl]
  exact eqTermS_l0 t hl t.length k 0 (by omega) (by omega)
theorem eqTermSS_l0 (c : List (List S38)) (hl : c.length ≤ 1048576) (ha : ∀ a ∈ c, a.length ≤ 1048576) : ∀ (n k i : Nat), n + 1048578 ≤ k → i + n = c.length → laws_eqTermSS.l0 k c c (i : Int) = some true := by
  intro n
  induction n with
  | zero =>
    intro k i hk hi
    obtain ⟨k, rfl⟩ : ∃ k', k = k' + 1 := ⟨k - 1, by omega⟩
    rw [laws_eqTermSS.l0, if_neg (by omega)]
  | succ n ih =>
    intro k i hk hi
    obtain ⟨k, rfl⟩ : ∃ k', k = k' + 1 := ⟨k - 1, by omega⟩
    have hlt : i < c.length := by omega
    have hw : wrap64 ((i : Int) + 1) = ((i + 1 : Nat) : Int) := by rw [wrap64_id (by omega) (by omega)]; omega
    rw [laws_eqTermSS.l0, if_pos (by omega), if_pos (by omega), if_pos (by omega), hw, rd_alts c i hlt, eqTermS_refl _ (ha _ (List.getElem_mem hlt)) k (by omega), Option.bind_some, if_pos rfl]
    exact ih k (i + 1) (by omega) (by omega)
theorem eqTermSS_refl (c : List (List S38)) (hl : c.length ≤ 1048576) (ha : ∀ a ∈ c, a.length ≤ 1048576) (k : Nat) (hk : 2097154 ≤ k) : laws_eqTermSS.f k c c = some true := by
  unfold laws_eqTermSS.f
  rw [if_pos rfl]
  exact eqTermSS_l0 c hl ha c.length k 0 (by omega) (by omega)
end Go.Proofs.YthfohhpjanoimaaDoor.P
end

section
set_option linter.unusedVariables false
set_option linter.unusedSimpArgs false
namespace Go.Proofs.YthfohhpjanoimaaDoor.P
open Go.RowKit Go.Proofs.YthfohhpjanoimaaDoorW.PrintWords Go.Proofs.YthfohhpjanoimaaDoorW.PrintLast Go.Proofs.YthfohhpjanoimaaDoorM
theorem strOf_one (x : Int) : (strOfNums [x]).size = 1 := rfl
theorem markText_l0 : ∀ (n k : Nat) (x : Int) (s : ByteArray), n + 1 ≤ k → x < 10 ^ n → s.size + n ≤ 1000 → ∃ r, laws_markText.l0 k x s = some r := by
  intro n
  induction n with
  | zero =>
    intro k x s hk hx hs
    obtain ⟨k, rfl⟩ : ∃ k', k = k' + 1 := ⟨k - 1, by omega⟩
    rw [laws_markText.l0, if_neg (by simp at hx; omega), if_pos (by omega)]
    exact ⟨_, rfl⟩
  | succ n ih =>
    intro k x s hk hx hs
    obtain ⟨k, rfl⟩ : ∃ k', k = k' + 1 := ⟨k - 1, by omega⟩
    rw [laws_markText.l0]
    by_cases h : x > 0
    · rw [if_pos h, Option.bind_some, strOf_one, if_pos (by omega)]
      refine ih k _ _ (by omega) ?_ (by rw [ByteArray.size_append, strOf_one]; omega)
      rw [Int.tdiv_eq_ediv_of_nonneg (by omega)]
      have h1 : x / 10 < 10 ^ n := by rw [Int.pow_succ] at hx; omega
      by_cases h2 : x / 10 ≤ 9223372036854775807
      · rw [wrap64_id (by omega) h2]; exact h1
      · unfold wrap64; omega
    · rw [if_neg h, if_pos (by omega)]
      exact ⟨_, rfl⟩
theorem markText_some (k : Nat) (x : Int) (hx : x < 10000000000) (hk : 11 ≤ k) : ∃ r, laws_markText.f k x = some r := by
  unfold laws_markText.f
  by_cases h : x ≤ 0
  · rw [if_pos h]; exact ⟨_, rfl⟩
  · rw [if_neg h]; exact markText_l0 10 k x _ hk hx (by decide)
theorem markText_up (a : Int) (r : ByteArray) (h : laws_markText.f 11 a = some r) : ∀ n, laws_markText.f (11 + n) a = some r
  | 0 => h
  | n + 1 => laws_markText.mono a (11 + n) r (markText_up a r h n)
def mt (a : Nat) : ByteArray := (laws_markText.f 11 (a : Int)).getD ByteArray.empty
theorem markText_mt (k : Nat) (a : Nat) (ha : a < 10000000000) (hk : 11 ≤ k) : laws_markText.f k (a : Int) = some (mt a) := by
  obtain ⟨r, hr⟩ := markText_some 11 (a : Int) (by omega) (Nat.le_refl _)
  obtain ⟨n, rfl⟩ : ∃ n, k = 11 + n := ⟨k - 11, by omega⟩
  rw [markText_up _ r hr n]
  unfold mt
  rw [hr]; rfl
def mE (a : Nat) : Nat → List S38
  | 0 => []
  | n + 1 => ⟨mt a, mt (a + 1)⟩ :: mE (a + 2) n
theorem mE_length : ∀ n a, (mE a n).length = n
  | 0, _ => rfl
  | n + 1, a => by rw [mE, List.length_cons, mE_length n]
theorem mE_app : ∀ n m a, mE a (n + m) = mE a n ++ mE (a + 2 * n) m
  | 0, m, a => by simp [mE]
  | n + 1, m, a => by
    rw [show n + 1 + m = (n + m) + 1 by omega, mE, mE_app n m (a + 2), mE, show a + 2 + 2 * n = a + 2 * (n + 1) by omega]
    rfl
theorem mE_snoc (n a : Nat) : mE a (n + 1) = mE a n ++ [⟨mt (a + 2 * n), mt (a + 2 * n + 1)⟩] := mE_app n 1 a
theorem set_mid {α : Type} (p : List α) (x y : α) (t : List α) (i : Nat) (h : p.length = i) : (p ++ x :: t).set i y = p ++ y :: t := by
  rw [List.set_append_right _ _ (by omega), h, Nat.sub_self, List.set_cons_zero]
theorem getD_mid {α : Type} (p : List α) (x z : α) (t : List α) (i : Nat) (h : p.length = i) : (p ++ x :: t).getD i z = x := by
  rw [List.getD_eq_getElem?_getD, List.getElem?_append_right (by omega), h, Nat.sub_self]
  rfl
theorem rd_mid (p : List S38) (x : S38) (t : List S38) (i : Nat) (h : p.length = i) : rd_T38 (p ++ x :: t) (i : Int) = x := by
  unfold rd_T38
  rw [Int.toNat_natCast, getD_mid p x _ t i h]
theorem markS_run (m : Nat) (hm : m ≤ 4194304) : ∀ (n k i : Nat) (t : List S38), i + n ≤ 1048576 → n + 15 ≤ k → t.length = n →
    laws_markTermS.l0 k (mE m i ++ t) ((m + 2 * i : Nat) : Int) (i : Int) = some (((m + 2 * (i + n) : Nat) : Int), mE m (i + n)) := by
  intro n
  induction n with
  | zero =>
    intro k i t hl hk ht
    obtain ⟨k, rfl⟩ : ∃ k', k = k' + 1 := ⟨k - 1, by omega⟩
    obtain rfl := List.eq_nil_of_length_eq_zero ht
    have hm := mE_length i m
    rw [laws_markTermS.l0, if_neg (by simp [hm])]
    simp
  | succ n ih =>
    intro k i t hl hk ht
    obtain ⟨k, rfl⟩ : ∃ k', k = k' + 1 := ⟨k - 1, by omega⟩
    obtain ⟨x, t, rfl⟩ : ∃ x t', t = x :: t' := by cases t with
      | nil => cases ht
      | cons x t => exact ⟨x, t, rfl⟩
    have hme := mE_length i m
    have hw : wrap64 ((i : Int) + 1) = ((i + 1 : Nat) : Int) := by rw [wrap64_id (by omega) (by omega)]; omega
    have w1 : wrap64 (((m + 2 * i : Nat) : Int) + 1) = ((m + 2 * i + 1 : Nat) : Int) := by rw [wrap64_id (by omega) (by omega)]; omega
    have w2 : wrap64 (((m + 2 * i + 1 : Nat) : Int) + 1) = ((m + 2 * (i + 1) : Nat) : Int) := by rw [wrap64_id (by omega) (by omega)]; omega
    rw [laws_markTermS.l0, if_pos (by rw [List.length_append, hme, List.length_cons]; omega), markText_mt k _ (by omega) (by omega), Option.bind_some, if_pos (by omega), Option.bind_some, w1, markText_mt k _ (by omega) (by omega), Option.bind_some, w2, hw, Int.toNat_natCast,
      rd_mid _ _ _ i hme, set_mid _ _ _ _ i hme, rd_mid _ _ _ i hme, set_mid _ _ _ _ i hme]
    have := ih k (i + 1) t (by omega) (by omega) (by simpa using ht)
    rw [mE_snoc, List.append_assoc] at this
    refine this.trans ?_
    rw [show i + 1 + n = i + (n + 1) by omega]
theorem markS_eq (m : Nat) (hm : m ≤ 4194304) (t : List S38) (hl : t.length ≤ 1048576) (k : Nat) (hk : t.length + 15 ≤ k) : laws_markTermS.f k t (m : Int) = some (((m + 2 * t.length : Nat) : Int), mE m t.length) := by
  have := markS_run m hm t.length k 0 t (by omega) hk rfl
  simpa [mE, laws_markTermS.f] using this
theorem heldS_run (m N : Nat) (hm : m ≤ 4194304) (hN : N ≤ 1048576) : ∀ (n k i : Nat), i + n = N → n + 15 ≤ k →
    laws_heldTermS.l0 k (mE m N) ((m + 2 * i : Nat) : Int) (i : Int) = some ((m + 2 * N : Nat) : Int) := by
  intro n
  induction n with
  | zero =>
    intro k i hi hk
    obtain ⟨k, rfl⟩ : ∃ k', k = k' + 1 := ⟨k - 1, by omega⟩
    rw [laws_heldTermS.l0, mE_length, if_neg (by omega), show i = N by omega]
  | succ n ih =>
    intro k i hi hk
    obtain ⟨k, rfl⟩ : ∃ k', k = k' + 1 := ⟨k - 1, by omega⟩
    have hw : wrap64 ((i : Int) + 1) = ((i + 1 : Nat) : Int) := by rw [wrap64_id (by omega) (by omega)]; omega
    have w1 : wrap64 (((m + 2 * i : Nat) : Int) + 1) = ((m + 2 * i + 1 : Nat) : Int) := by rw [wrap64_id (by omega) (by omega)]; omega
    have w2 : wrap64 (((m + 2 * i + 1 : Nat) : Int) + 1) = ((m + 2 * (i + 1) : Nat) : Int) := by rw [wrap64_id (by omega) (by omega)]; omega
    have hr : rd_T38 (mE m N) (i : Int) = ⟨mt (m + 2 * i), mt (m + 2 * i + 1)⟩ := by
      rw [show N = i + (n + 1) by omega, mE_app, mE]
      exact rd_mid _ _ _ i (mE_length _ _)
    rw [laws_heldTermS.l0, mE_length, if_pos (by omega), if_pos (by omega), markText_mt k _ (by omega) (by omega), Option.bind_some, hr, if_pos rfl, w1, markText_mt k _ (by omega) (by omega), Option.bind_some, if_pos rfl, w2, hw]
    exact ih k (i + 1) (by omega) (by omega)
theorem heldS_eq (m N : Nat) (hm : m ≤ 4194304) (hN : N ≤ 1048576) (k : Nat) (hk : N + 15 ≤ k) : laws_heldTermS.f k (mE m N) (m : Int) = some ((m + 2 * N : Nat) : Int) := by
  have := heldS_run m N hm hN N k 0 (by omega) hk
  simpa [laws_heldTermS.f] using this
def mSS (m : Nat) : List (List S38) → List (List S38)
  | [] => []
  | a :: l => mE m a.length :: mSS (m + 2 * a.length) l
def totL : List (List S38) → Nat
  | [] => 0
  | a :: l => 2 * a.length + totL l
theorem mSS_length : ∀ (c : List (List S38)) (m : Nat), (mSS m c).length = c.length
  | [], _ => rfl
  | a :: l, m => by rw [mSS, List.length_cons, List.length_cons, mSS_length l]
theorem totL_app : ∀ (a b : List (List S38)), totL (a ++ b) = totL a + totL b
  | [], b => by simp [totL]
  | x :: l, b => by rw [List.cons_append, totL, totL_app l b, totL]; omega
theorem mSS_app : ∀ (a b : List (List S38)) (m : Nat), mSS m (a ++ b) = mSS m a ++ mSS (m + totL a) b
  | [], b, m => by simp [mSS, totL]
  | x :: l, b, m => by
    rw [List.cons_append, mSS, mSS_app l b, mSS, totL, List.cons_append, show m + 2 * x.length + totL l = m + (2 * x.length + totL l) by omega]
theorem totL_le (c : List (List S38)) (W : Nat) (h : ∀ a ∈ c, a.length ≤ W) : totL c ≤ c.length * (2 * W) := by
  induction c with
  | nil => simp [totL]
  | cons a l ih =>
    have h1 := ih (fun x hx => h x (List.mem_cons_of_mem _ hx))
    have h2 := h a List.mem_cons_self
    have e : (l.length + 1) * (2 * W) = l.length * (2 * W) + 2 * W := Nat.succ_mul _ _
    rw [totL, List.length_cons, e]
    omega
theorem markSS_run (c : List (List S38)) (m : Nat) (ha : ∀ a ∈ c, a.length ≤ 1048576) (hc : c.length ≤ 1048576) (ht : m + totL c ≤ 4194304) : ∀ (n k i : Nat), i + n = c.length → n + 1048600 ≤ k →
    laws_markTermSS.l0 k (mSS m (c.take i) ++ c.drop i) ((m + totL (c.take i) : Nat) : Int) (i : Int) = some (((m + totL c : Nat) : Int), mSS m c) := by
  intro n
  induction n with
  | zero =>
    intro k i hi hk
    obtain ⟨k, rfl⟩ : ∃ k', k = k' + 1 := ⟨k - 1, by omega⟩
    rw [List.take_of_length_le (by omega), List.drop_eq_nil_of_le (by omega), List.append_nil, laws_markTermSS.l0, mSS_length, if_neg (by omega)]
  | succ n ih =>
    intro k i hi hk
    obtain ⟨k, rfl⟩ : ∃ k', k = k' + 1 := ⟨k - 1, by omega⟩
    have hlt : i < c.length := by omega
    have hw : wrap64 ((i : Int) + 1) = ((i + 1 : Nat) : Int) := by rw [wrap64_id (by omega) (by omega)]; omega
    have hd := List.drop_eq_getElem_cons hlt
    have htk := List.take_succ_eq_append_getElem hlt
    have hal := ha _ (List.getElem_mem hlt)
    have hih := ih k (i + 1) (by omega) (by omega)
    have hsum : totL c = totL (c.take i) + totL (c.drop i) := by rw [← totL_app, List.take_append_drop]
    revert hd htk hal
    generalize c[i] = a
    intro hd htk hal
    have hpl : (mSS m (c.take i)).length = i := by rw [mSS_length, List.length_take]; omega
    rw [hd, laws_markTermSS.l0, if_pos (by rw [List.length_append, hpl, List.length_cons]; omega), if_pos (by omega), Int.toNat_natCast, getD_mid _ _ _ _ i hpl, markS_eq _ (by omega) a hal k (by omega), Option.bind_some, set_mid _ _ _ _ i hpl, hw]
    rw [htk, mSS_app, totL_app] at hih
    simp only [mSS, totL, List.append_assoc, List.singleton_append, Nat.add_zero] at hih
    rw [show m + totL (c.take i) + 2 * a.length = m + (totL (c.take i) + 2 * a.length) by omega]
    exact hih
theorem markSS_eq (c : List (List S38)) (m : Nat) (ha : ∀ a ∈ c, a.length ≤ 1048576) (hc : c.length ≤ 1048576) (ht : m + totL c ≤ 4194304) (k : Nat) (hk : 2200000 ≤ k) :
    laws_markTermSS.f k c (m : Int) = some (((m + totL c : Nat) : Int), mSS m c) := by
  have := markSS_run c m ha hc ht c.length k 0 (by omega) (by omega)
  simpa [laws_markTermSS.f, mSS, totL] using this
theorem heldSS_run (c : List (List S38)) (m : Nat) (ha : ∀ a ∈ c, a.length ≤ 1048576) (hc : c.length ≤ 1048576) (ht : m + totL c ≤ 4194304) : ∀ (n k i : Nat), i + n = c.length → n + 1048600 ≤ k →
    laws_heldTermSS.l0 k (mSS m c) ((m + totL (c.take i) : Nat) : Int) (i : Int) = some ((m + totL c : Nat) : Int) := by
  intro n
  induction n with
  | zero =>
    intro k i hi hk
    obtain ⟨k, rfl⟩ : ∃ k', k = k' + 1 := ⟨k - 1, by omega⟩
    rw [List.take_of_length_le (by omega), laws_heldTermSS.l0, mSS_length, if_neg (by omega)]
  | succ n ih =>
    intro k i hi hk
    obtain ⟨k, rfl⟩ : ∃ k', k = k' + 1 := ⟨k - 1, by omega⟩
    have hlt : i < c.length := by omega
    have hw : wrap64 ((i : Int) + 1) = ((i + 1 : Nat) : Int) := by rw [wrap64_id (by omega) (by omega)]; omega
    have hd := List.drop_eq_getElem_cons hlt
    have htk := List.take_succ_eq_append_getElem hlt
    have hal := ha _ (List.getElem_mem hlt)
    have hih := ih k (i + 1) (by omega) (by omega)
    have hsum : totL c = totL (c.take i) + totL (c.drop i) := by rw [← totL_app, List.take_append_drop]
    revert hd htk hal
    generalize c[i] = a
    intro hd htk hal
    have hpl : (mSS m (c.take i)).length = i := by rw [mSS_length, List.length_take]; omega
    have hrd : rd_L4 (mSS m c) (i : Int) = mE (m + totL (c.take i)) a.length := by
      have e : mSS m c = mSS m (c.take i) ++ mE (m + totL (c.take i)) a.length :: mSS (m + totL (c.take i) + 2 * a.length) (c.drop (i + 1)) := by
        have h2 := mSS_app (c.take i) (c.drop i) m
        rw [List.take_append_drop, hd, mSS] at h2
        exact h2
      rw [e]
      unfold rd_L4
      rw [Int.toNat_natCast]
      exact getD_mid _ _ _ _ i hpl
    rw [laws_heldTermSS.l0, mSS_length, if_pos (by omega), if_pos (by omega), hrd, heldS_eq _ _ (by omega) hal k (by omega), Option.bind_some, if_neg (by omega), hw]
    rw [htk, totL_app] at hih
    simp only [totL, Nat.add_zero] at hih
    rw [show m + totL (c.take i) + 2 * a.length = m + (totL (c.take i) + 2 * a.length) by omega]
    exact hih
theorem heldSS_eq (c : List (List S38)) (m : Nat) (ha : ∀ a ∈ c, a.length ≤ 1048576) (hc : c.length ≤ 1048576) (ht : m + totL c ≤ 4194304) (k : Nat) (hk : 2200000 ≤ k) :
    laws_heldTermSS.f k (mSS m c) (m : Int) = some ((m + totL c : Nat) : Int) := by
  have := heldSS_run c m ha hc ht c.length k 0 (by omega) (by omega)
  simpa [laws_heldTermSS.f, totL] using this
theorem allT_mem {α β : Type} (f : α → Option β) : ∀ (l : List α) (r : List β), allT f l = some r → ∀ b ∈ r, ∃ a ∈ l, f a = some b
  | [], r, h, b, hb => by rw [allT] at h; obtain rfl := Option.some.inj h; cases hb
  | a :: l, r, h, b, hb => by
    rw [allT] at h
    cases hf : f a with
    | none => rw [hf] at h; cases h
    | some x =>
      rw [hf] at h
      obtain ⟨q, hq, rfl⟩ := Option.map_eq_some_iff.mp h
      rcases List.mem_cons.1 hb with h1 | h1
      · exact ⟨a, List.mem_cons_self, by rw [hf, h1]⟩
      · obtain ⟨y, hy, h2⟩ := allT_mem f l q hq b h1
        exact ⟨y, List.mem_cons_of_mem _ hy, h2⟩
theorem altOf_len (x : ByteArray) (hx : x.size ≤ 200) (a : List S38) (h : altOf x = some a) : a.length ≤ 500 := by
  unfold altOf at h
  cases hs : allT tI (wordsOf x) with
  | none => rw [hs] at h; cases h
  | some ts =>
    rw [hs] at h
    have hl := allT_length tI _ _ hs
    have hw := (words_ok x hx).1
    simp only [] at h
    split at h
    · cases h
    · split at h
      · cases h
      · injection h with h
        rw [← h]; omega
theorem rc_small (s : ByteArray) : (rcAns [] (rcOf s)).1.length ≤ 201 ∧ ∀ a ∈ (rcAns [] (rcOf s)).1, a.length ≤ 500 := by
  cases h : rcOf s with
  | none => exact ⟨by simp [rcAns], fun a ha => by simp [rcAns] at ha⟩
  | some c =>
    unfold rcOf at h
    split at h
    · cases h
    · rename_i hs
      obtain ⟨h1, h2⟩ := alts_ok s (by omega)
      have hl := allT_length altOf _ _ h
      simp only [rcAns, List.nil_append]
      refine ⟨by omega, fun a ha => ?_⟩
      obtain ⟨x, hx, he⟩ := allT_mem altOf _ _ h a ha
      exact altOf_len x (h2 x hx) a he
end Go.Proofs.YthfohhpjanoimaaDoor.P
end

section
set_option linter.unusedVariables false
set_option linter.unusedSimpArgs false
namespace Go.Proofs.YthfohhpjanoimaaDoor.P
open Go.RowKit Go.Proofs.YthfohhpjanoimaaDoorW.PrintWords Go.Proofs.YthfohhpjanoimaaDoorW.PrintLast Go.Proofs.YthfohhpjanoimaaDoorW.PrintMore Go.Proofs.YthfohhpjanoimaaDoorM
def laws_FnExactReadConstraint.f (k : Nat) (a0 : ByteArray) : Option Bool := some true
theorem rc_facts (s : ByteArray) : ∃ (L L2 : List (List S38)) (b : Bool) (M : Int), spec_ReadConstraint.f 2500000 s = some (L, b) ∧ impl_ReadConstraint.f 2500000 s = some (L, b) ∧ laws_eqTermSS.f 2500000 L L = some true ∧
    laws_markTermSS.f 2500000 L 1 = some (M, L2) ∧ laws_heldTermSS.f 2500000 L2 1 = some M ∧ decide (M < 0) = false := by
  obtain ⟨h1, h2⟩ := rc_small s
  have h3 : ∀ a ∈ (rcAns [] (rcOf s)).1, a.length ≤ 1048576 := fun a ha => by have := h2 a ha; omega
  have h4 := totL_le _ 500 h2
  have h5 := Nat.mul_le_mul_right (2 * 500) h1
  refine ⟨(rcAns [] (rcOf s)).1, mSS 1 (rcAns [] (rcOf s)).1, (rcAns [] (rcOf s)).2, _, spec_ReadConstraint_eq s _ (by decide), impl_ReadConstraint_eq s _ (by decide), eqTermSS_refl _ (by omega) h3 _ (by decide),
    markSS_eq _ 1 h3 (by omega) (by omega) _ (by decide), heldSS_eq _ 1 h3 (by omega) (by omega) _ (by decide), ?_⟩
  exact decide_eq_false (by omega)
set_option maxHeartbeats 8000000 in
set_option maxRecDepth 100000 in
theorem laws_FnExactReadConstraint.calls (k : Nat) (a0 : ByteArray) (r : Bool) (w : World) (hE : EnvW w) (h : laws_FnExactReadConstraint.f k a0 = some r) :
    Calls Tryd.prog 3 #[.string a0] w fun e w' => e = .returned (.bool r) ∧ Below w.heap.size w w' := by
  have h1 : true = r := Option.some.inj h
  subst h1
  clear h
  have HE := Aside0.mk hE
  clear hE
  have HB0 := Aside0.mk (Below.refl w.heap.size w)
  by_cases c1 : (a0.size : Int) > 1048576
  · have c1b0 : decide (1048576 < (a0.size : Int)) = true := decide_eq_true c1
    have c1b1 : decide (1048576 < a0.size) = true := decide_eq_true (by omega)
    clear c1
    go_enter Tryd.func3, Tryd.ntmps3
    go_wp2
    go_ret
    exact ⟨rfl, by repeat (first | (with_reducible first | exact HB0.out | apply below_alloc | apply pw_below_drewN | apply below_drew1) | exact HB0.out)⟩
  · have c1b0 : decide (1048576 < (a0.size : Int)) = false := decide_eq_false c1
    have c1b1 : decide (1048576 < a0.size) = false := decide_eq_false (by omega)
    clear c1
    obtain ⟨L, L2, b, M, f1, f2, f3, f4, f5, f6⟩ := rc_facts a0
    have F1 := Aside0.mk f1
    have F2 := Aside0.mk f2
    have F3 := Aside0.mk f3
    have F4 := Aside0.mk f4
    have F5 := Aside0.mk f5
    clear f1 f2 f3 f4 f5
    go_enter Tryd.func3, Tryd.ntmps3
    go_wp2_with (first | ((with_reducible refine gate_callee (f := 6) rfl ?_); refine goesL_ (some 16) rfl rfl Tryd.func6 (by kernel_rfl) rfl #[.string a0] rfl (by (try simp only [List.map_toArray, List.map_cons, List.map_nil]); first | done | rfl) ?_; (with_reducible refine (spec_ReadConstraint.calls 2500000 a0 L b _ F1.out).mono ?_); rintro e w1 ⟨v1, rfl, hs1, hb⟩; refine ⟨_, rfl, ?_⟩; obtain ⟨A1, c1, rfl⟩ := Kd.S_slice hs1; have HC1 := Aside0.mk (Kd.S_reads' hs1).2; have n1_ := Aside0.mk (below_step (by repeat (first | (with_reducible first | exact HB0.out | apply below_alloc | apply pw_below_drewN | apply below_drew1) | exact HB0.out)) hb); clear hb hs1 HB0; have HB0 := n1_; clear n1_; have HB1 := Aside0.mk (Below.refl w1.heap.size w1)) | ((with_reducible refine gate_callee (f := 7) rfl ?_); refine goesL_ (some 21) rfl rfl Tryd.func7 (by kernel_rfl) rfl #[.string a0] rfl (by (try simp only [List.map_toArray, List.map_cons, List.map_nil]); first | done | rfl) ?_; (with_reducible refine (impl_ReadConstraint.calls 2500000 a0 L b _ ?side1 F2.out).mono ?_); (case side1 => refine EnvW.below HE.out ?_; refine below_step HB0.out ?_; repeat (first | (with_reducible first | exact HB1.out | apply below_alloc | apply pw_below_drewN | apply below_drew1) | exact HB1.out)); rintro e w2 ⟨v2, rfl, hs2, hb⟩; refine ⟨_, rfl, ?_⟩; obtain ⟨A2, c2, rfl⟩ := Kd.S_slice hs2; have n0_ := Aside0.mk (Kd.S_mono (Kd.S_bound (Kd.S_lower hs2 (below_size (show Below w1.heap.size w1 _ by repeat (first | (with_reducible first | exact HB1.out | apply below_alloc | apply pw_below_drewN | apply below_drew1) | exact HB1.out))))) (ok' := fun k_ => w1.heap.size ≤ k_) (fun k_ hk_ => hk_.2.1)); have n1_ := Aside0.mk (below_step (show Below w1.heap.size w1 _ by repeat (first | (with_reducible first | exact HB1.out | apply below_alloc | apply pw_below_drewN | apply below_drew1) | exact HB1.out)) hb); clear hb hs2 HB1; have HO2 := n0_; have HB1 := n1_; clear n0_ n1_) | ((with_reducible refine gate_callee (f := 8) rfl ?_); refine goesL_ (some 26) rfl rfl Tryd.func8 (by kernel_rfl) rfl #[.slice A2 L.length c2, .slice A1 L.length c1] rfl (by (try simp only [List.map_toArray, List.map_cons, List.map_nil]); first | done | rfl) ?_; (with_reducible refine (laws_eqTermSS.calls 2500000 _ _ L _ _ L true _ ?side1 ?side2 ?side3 ?side4 F3.out).mono ?_); (case side1 => repeat (first | exact (Kd.S_reads' HO2.out).2.2 | (with_reducible refine Kd.C_alloc ?_ _) | (with_reducible refine Kd.C_drewN ?_ _) | (with_reducible refine Kd.C_drew ?_))); (case side2 => exact (Kd.S_reads' HO2.out).2.1); (case side3 => repeat (first | exact (Kd.C_below HC1.out.2 HB1.out) | (with_reducible refine Kd.C_alloc ?_ _) | (with_reducible refine Kd.C_drewN ?_ _) | (with_reducible refine Kd.C_drew ?_))); (case side4 => exact HC1.out.1); rintro e w3 ⟨rfl, hb⟩; refine ⟨_, rfl, ?_⟩; have n0_ := Aside0.mk (Kd.S_below (by (with_reducible repeat (first | apply Kd.S_alloc | apply Kd.S_drewN | apply Kd.S_drew)); exact HO2.out) hb); have n1_ := Aside0.mk (below_step (show Below w1.heap.size w1 _ by repeat (first | (with_reducible first | exact HB1.out | apply below_alloc | apply pw_below_drewN | apply below_drew1) | exact HB1.out)) hb); clear hb HO2 HB1; have HO2 := n0_; have HB1 := n1_; clear n0_ n1_) | ((with_reducible refine gate_callee (f := 9) rfl ?_); refine goesL_ (some 35) rfl rfl Tryd.func9 (by kernel_rfl) rfl #[.slice A2 L.length c2, .int .i64 1] rfl (by (try simp only [List.map_toArray, List.map_cons, List.map_nil]); first | done | rfl) ?_; (with_reducible refine (laws_markTermSS.calls 2500000 (fun k_ => w1.heap.size ≤ k_) (.slice A2 L.length c2) L 1 M L2 w1 _ ?side1 ?side2 F4.out).mono ?_); (case side1 => repeat (first | (with_reducible first | exact HB1.out | apply below_alloc | apply pw_below_drewN | apply below_drew1) | exact HB1.out)); (case side2 => (with_reducible repeat (first | apply Kd.S_alloc | apply Kd.S_drewN | apply Kd.S_drew)); exact HO2.out); rintro e w4 ⟨rfl, ho, hb, hk⟩; refine ⟨_, rfl, ?_⟩; have hl_ := (Kd.S_reads' ho).1; have n0_ := Aside0.mk ho; have n1_ := Aside0.mk hb; clear hb hk ho HO2 HB1; have HO4 := n0_; have HB1 := n1_; have HL4 := Aside0.mk hl_; clear n0_ n1_ hl_) | ((with_reducible refine gate_callee (f := 10) rfl ?_); refine goesL_ (some 38) rfl rfl Tryd.func10 (by kernel_rfl) rfl #[.slice A2 L2.length c2, .int .i64 1] rfl (by (try simp only [List.map_toArray, List.map_cons, List.map_nil]); first | done | rfl | (rw [HL4.out]; rfl) | (rw [← HL4.out]; rfl)) ?_; (with_reducible refine (laws_heldTermSS.calls 2500000 _ _ L2 1 M _ ?side1 ?side2 F5.out).mono ?_); (case side1 => repeat (first | exact (Kd.S_reads' HO4.out).2.2 | (with_reducible refine Kd.C_alloc ?_ _) | (with_reducible refine Kd.C_drewN ?_ _) | (with_reducible refine Kd.C_drew ?_))); (case side2 => have h_ := (Kd.S_reads' HO4.out).2.1; rw [HL4.out] at h_; exact h_); rintro e w5 ⟨rfl, hb⟩; refine ⟨_, rfl, ?_⟩; have n0_ := Aside0.mk (Kd.S_below (by (with_reducible repeat (first | apply Kd.S_alloc | apply Kd.S_drewN | apply Kd.S_drew)); exact HO4.out) hb); have n1_ := Aside0.mk (below_step (show Below w1.heap.size w1 _ by repeat (first | (with_reducible first | exact HB1.out | apply below_alloc | apply pw_below_drewN | apply below_drew1) | exact HB1.out)) hb); clear hb HO4 HB1; have HO4 := n0_; have HB1 := n1_; clear n0_ n1_) | ((with_reducible refine gate_callee (f := 7) rfl ?_); refine goesL_ (some 46) rfl rfl Tryd.func7 (by kernel_rfl) rfl #[.string a0] rfl (by (try simp only [List.map_toArray, List.map_cons, List.map_nil]); first | done | rfl) ?_; (with_reducible refine (impl_ReadConstraint.calls 2500000 a0 L b _ ?side1 F2.out).mono ?_); (case side1 => refine EnvW.below HE.out ?_; refine below_step HB0.out ?_; repeat (first | (with_reducible first | exact HB1.out | apply below_alloc | apply pw_below_drewN | apply below_drew1) | exact HB1.out)); rintro e w6 ⟨v6, rfl, hs6, hb⟩; refine ⟨_, rfl, ?_⟩; obtain ⟨A6, c6, rfl⟩ := Kd.S_slice hs6; have n2_ := Aside0.mk (Kd.S_reads' hs6).2; have n0_ := Aside0.mk (Kd.S_below (by (with_reducible repeat (first | apply Kd.S_alloc | apply Kd.S_drewN | apply Kd.S_drew)); exact HO4.out) hb); have n1_ := Aside0.mk (below_step (show Below w1.heap.size w1 _ by repeat (first | (with_reducible first | exact HB1.out | apply below_alloc | apply pw_below_drewN | apply below_drew1) | exact HB1.out)) hb); clear hb hs6 HO4 HB1; have HO4 := n0_; have HB1 := n1_; have HC6 := n2_; clear n0_ n1_ n2_) | ((with_reducible refine gate_callee (f := 8) rfl ?_); refine goesL_ (some 51) rfl rfl Tryd.func8 (by kernel_rfl) rfl #[.slice A6 L.length c6, .slice A1 L.length c1] rfl (by (try simp only [List.map_toArray, List.map_cons, List.map_nil]); first | done | rfl) ?_; (with_reducible refine (laws_eqTermSS.calls 2500000 _ _ L _ _ L true _ ?side1 ?side2 ?side3 ?side4 F3.out).mono ?_); (case side1 => repeat (first | exact HC6.out.2 | (with_reducible refine Kd.C_alloc ?_ _) | (with_reducible refine Kd.C_drewN ?_ _) | (with_reducible refine Kd.C_drew ?_))); (case side2 => exact HC6.out.1); (case side3 => repeat (first | exact (Kd.C_below HC1.out.2 HB1.out) | (with_reducible refine Kd.C_alloc ?_ _) | (with_reducible refine Kd.C_drewN ?_ _) | (with_reducible refine Kd.C_drew ?_))); (case side4 => exact HC1.out.1); rintro e w7 ⟨rfl, hb⟩; refine ⟨_, rfl, ?_⟩; have n0_ := Aside0.mk (Kd.S_below (by (with_reducible repeat (first | apply Kd.S_alloc | apply Kd.S_drewN | apply Kd.S_drew)); exact HO4.out) hb); have n1_ := Aside0.mk (below_step (show Below w1.heap.size w1 _ by repeat (first | (with_reducible first | exact HB1.out | apply below_alloc | apply pw_below_drewN | apply below_drew1) | exact HB1.out)) hb); clear hb HO4 HB1 HC6; have HO4 := n0_; have HB1 := n1_; clear n0_ n1_) | ((with_reducible refine gate_callee (f := 10) rfl ?_); refine goesL_ (some 60) rfl rfl Tryd.func10 (by kernel_rfl) rfl #[.slice A2 L2.length c2, .int .i64 1] rfl (by (try simp only [List.map_toArray, List.map_cons, List.map_nil]); first | done | rfl | (rw [HL4.out]; rfl) | (rw [← HL4.out]; rfl)) ?_; (with_reducible refine (laws_heldTermSS.calls 2500000 _ _ L2 1 M _ ?side1 ?side2 F5.out).mono ?_); (case side1 => repeat (first | exact (Kd.S_reads' HO4.out).2.2 | (with_reducible refine Kd.C_alloc ?_ _) | (with_reducible refine Kd.C_drewN ?_ _) | (with_reducible refine Kd.C_drew ?_))); (case side2 => have h_ := (Kd.S_reads' HO4.out).2.1; rw [HL4.out] at h_; exact h_); rintro e w5 ⟨rfl, hb⟩; refine ⟨_, rfl, ?_⟩; have n1_ := Aside0.mk (below_step (show Below w1.heap.size w1 _ by repeat (first | (with_reducible first | exact HB1.out | apply below_alloc | apply pw_below_drewN | apply below_drew1) | exact HB1.out)) hb); clear hb HB1; have HB1 := n1_; clear n1_))
    go_ret
    exact ⟨rfl, below_step HB0.out (show Below w1.heap.size w1 _ by repeat (first | (with_reducible first | exact HB1.out | apply below_alloc | apply pw_below_drewN | apply below_drew1) | exact HB1.out))⟩
theorem FnExactReadConstraint_pure (a0 : ByteArray) : ∃ k, laws_FnExactReadConstraint.f k a0 = some true := ⟨0, rfl⟩
end Go.Proofs.YthfohhpjanoimaaDoor.P
end

section
namespace Go.Proofs.YthfohhpjanoimaaDoor.fnExactReadConstraint
open Go.ChangeShapes Go.WideShapes Go.ChangeAt Go.RowKit Go.Proofs.YthfohhpjanoimaaDoorM
set_option linter.unusedVariables false
set_option maxRecDepth 100000
theorem own : ownKnob Tryd.prog.godebug = none := by kernel_rfl
theorem laidOut : laidOutB Tryd.prog = true := by kernel_rfl
theorem env {W : World} (h : W.ShapedOpen Tryd.prog) : EnvW W :=
  ⟨Go.Proofs.cell_of_shapedOpen_int (zero := #[.int .i64 0]) (t := 3) h (of_decide_eq_true (by kernel_rfl)) (by kernel_rfl) rfl (by kernel_rfl) (by kernel_rfl) Tryd.underlying3⟩
theorem contract (H : Type) (enc : TypeId × Value → H) (W : World) (base : Nat) (args : Array Value) (ds gs : List (DataW H)) (before : List MemPlace)
    (hval0 : ∀ (j : Nat) t v, Tryd.f3.params[j]? = some t → args[j]? = some v → Value.okWide Tryd.prog W .any base t v)
    (hW : DataW.Whole enc Tryd.prog Tryd.f3.params.toList Rows.fnExactReadConstraintSpec.vars false W args.toList ds gs before) (hS : W.ShapedOpen Tryd.prog) :
    Calls Tryd.prog 3 args W fun e W' => ∃ v, e = .returned v ∧ Rows.fnExactReadConstraintSpec.post enc Tryd.prog Tryd.f3 false true false false W args v W' := by
  have hval := hval0
  have hW' := hW
  obtain ⟨p, q, hA0, hV, rfl, hfz, hnd⟩ := hW
  have hA : DataW.TrodAll enc Tryd.prog W 0 (fun _ => true) true Tryd.f3.params.toList args.toList ds p := hA0
  rw [Tryd.params3] at hA hval
  obtain ⟨v0, vs0, d0, ds0, p0, q0, hargs, rfl, rfl, h0, r0⟩ := trodAll_cons hA
  obtain ⟨rfl, rfl, rfl⟩ := trodAll_nil r0
  obtain rfl : args = #[v0] := by cases args; simp_all
  obtain ⟨rfl, rfl⟩ := trodVars_none hV
  obtain ⟨a0, rfl, rfl, rfl, y0⟩ := Go.ChangeMaps.open_string Tryd.underlying9 (hval 0 9 v0 rfl rfl) h0
  clear hA0 hval0
  obtain ⟨k, hk⟩ := P.FnExactReadConstraint_pure a0 
  refine (P.laws_FnExactReadConstraint.calls k a0 true W (env hS) hk).mono fun e W' ⟨he, bel⟩ => ?_
  subst he
  exact ⟨_, rfl, _, _, _, [], _, [], hW', trodAll_mk1 (shut_bool Tryd.underlying4 _), (trodAll_cons_mk (Go.ChangeMaps.shut_string Tryd.underlying9 y0) trodAll_mk0), rfl, bel.frame _, fun h => by cases h⟩
noncomputable def low : Nat := (World.holding Tryd.prog default ⟨#[], #[], []⟩).heap.size
noncomputable def laidWorld (os : Os) : World :=
  { World.holding Tryd.prog os ⟨#[.cells #[.string ⟨#[118, 97, 108, 117, 101, 32, 111, 117, 116, 32, 111, 102, 32, 114, 97, 110, 103, 101]⟩] 123, .cells #[.string ⟨#[105, 110, 118, 97, 108, 105, 100, 32, 115, 121, 110, 116, 97, 120]⟩] 123], #[], []⟩ with heap := (Array.modify (Array.modify (Array.modify (Array.modify (Array.modify (Array.modify (Array.modify (World.holding Tryd.prog os ⟨#[.cells #[.string ⟨#[118, 97, 108, 117, 101, 32, 111, 117, 116, 32, 111, 102, 32, 114, 97, 110, 103, 101]⟩] 123, .cells #[.string ⟨#[105, 110, 118, 97, 108, 105, 100, 32, 115, 121, 110, 116, 97, 120]⟩] 123], #[], []⟩).heap 6 (fun o => match o with
      | .cells _ t frozen => .cells #[(.int .u8 0), (.int .u8 1), (.int .u8 28), (.int .u8 2), (.int .u8 29), (.int .u8 14), (.int .u8 24), (.int .u8 3), (.int .u8 30), (.int .u8 22), (.int .u8 20), (.int .u8 15), (.int .u8 25), (.int .u8 17), (.int .u8 4), (.int .u8 8), (.int .u8 31), (.int .u8 27), (.int .u8 13), (.int .u8 23), (.int .u8 21), (.int .u8 19), (.int .u8 16), (.int .u8 7), (.int .u8 26), (.int .u8 12), (.int .u8 18), (.int .u8 6), (.int .u8 11), (.int .u8 5), (.int .u8 10), (.int .u8 9)] t frozen
      | o => o)) 7 (fun o => match o with
      | .cells _ t frozen => .cells #[(.int .u8 0), (.int .u8 1), (.int .u8 56), (.int .u8 2), (.int .u8 57), (.int .u8 49), (.int .u8 28), (.int .u8 3), (.int .u8 61), (.int .u8 58), (.int .u8 42), (.int .u8 50), (.int .u8 38), (.int .u8 29), (.int .u8 17), (.int .u8 4), (.int .u8 62), (.int .u8 47), (.int .u8 59), (.int .u8 36), (.int .u8 45), (.int .u8 43), (.int .u8 51), (.int .u8 22), (.int .u8 53), (.int .u8 39), (.int .u8 33), (.int .u8 30), (.int .u8 24), (.int .u8 18), (.int .u8 12), (.int .u8 5), (.int .u8 63), (.int .u8 55), (.int .u8 48), (.int .u8 27), (.int .u8 60), (.int .u8 41), (.int .u8 37), (.int .u8 16), (.int .u8 46), (.int .u8 35), (.int .u8 44), (.int .u8 21), (.int .u8 52), (.int .u8 32), (.int .u8 23), (.int .u8 11), (.int .u8 54), (.int .u8 26), (.int .u8 40), (.int .u8 15), (.int .u8 34), (.int .u8 20), (.int .u8 31), (.int .u8 10), (.int .u8 25), (.int .u8 14), (.int .u8 19), (.int .u8 9), (.int .u8 13), (.int .u8 8), (.int .u8 7), (.int .u8 6)] t frozen
      | o => o)) 5 (fun o => match o with
      | .cells _ t frozen => .cells #[(.int .u64 1), (.int .u64 10), (.int .u64 100), (.int .u64 1000), (.int .u64 10000), (.int .u64 100000), (.int .u64 1000000), (.int .u64 10000000), (.int .u64 100000000), (.int .u64 1000000000), (.int .u64 10000000000), (.int .u64 100000000000), (.int .u64 1000000000000), (.int .u64 10000000000000), (.int .u64 100000000000000), (.int .u64 1000000000000000), (.int .u64 10000000000000000), (.int .u64 100000000000000000), (.int .u64 1000000000000000000), (.int .u64 10000000000000000000)] t frozen
      | o => o)) 2 (fun o => match o with
      | .cells _ t frozen => .cells #[(.int .u8 128), (.int .u8 191), (.int .u8 160), (.int .u8 191), (.int .u8 128), (.int .u8 159), (.int .u8 144), (.int .u8 191), (.int .u8 128), (.int .u8 143), (.int .u8 0), (.int .u8 0), (.int .u8 0), (.int .u8 0), (.int .u8 0), (.int .u8 0), (.int .u8 0), (.int .u8 0), (.int .u8 0), (.int .u8 0), (.int .u8 0), (.int .u8 0), (.int .u8 0), (.int .u8 0), (.int .u8 0), (.int .u8 0), (.int .u8 0), (.int .u8 0), (.int .u8 0), (.int .u8 0), (.int .u8 0), (.int .u8 0)] t frozen
      | o => o)) 4 (fun o => match o with
      | .cells _ t frozen => .cells #[.iface 121 (.pointer (some ⟨low + 0, 0, none⟩))] t frozen
      | o => o)) 3 (fun o => match o with
      | .cells _ t frozen => .cells #[.iface 121 (.pointer (some ⟨low + 1, 0, none⟩))] t frozen
      | o => o)) 1 (fun o => match o with
      | .cells _ t frozen => .cells (Pinned.utf8FirstZ.map fun (n : Nat) => Value.int .u8 n).toArray t frozen
      | o => o)) }
theorem laid_met (os : Os) : laidMet Tryd.prog Rows.fnExactReadConstraintRow.laid ((laidWorld os).forCall (fun _ _ => 0) ⟨#[], #[.string ByteArray.empty], []⟩).memory :=
  laidMet_of_run' 8 (by kernel_rfl) (by kernel_rfl)
theorem reads (os : Os) {H : Type} (enc : TypeId × Value → H) : ∃ places, DataW.whole enc Tryd.prog ((laidWorld os).forCall (fun _ _ => 0) ⟨#[], #[.string ByteArray.empty], []⟩).memory Tryd.f3.params.toList Rows.fnExactReadConstraintSpec.vars false (#[.string ByteArray.empty] : Array Value).toList 8 = some ([.lit (.string [])], [], places) :=
  ⟨[], by kernel_rfl⟩
theorem lifted (os : Os) (started : os.Started) (H : Type) (enc : TypeId × Value → H) (F : Stop.Interp) :
    ReturnsInHanded {} Tryd.checked os 3 .any ((OpenSpec.ofChange Rows.fnExactReadConstraintSpec).preRow enc Tryd.prog Tryd.f3 Rows.fnExactReadConstraintRow.domain false Rows.fnExactReadConstraintRow.laid) (((OpenSpec.ofChange Rows.fnExactReadConstraintSpec).at F).post enc Tryd.prog Tryd.f3 false true false false) := by
  obtain ⟨places, hx⟩ := reads os enc
  refine returnsInHanded_of_row (C := Tryd.checked) (s := OpenSpec.ofChange Rows.fnExactReadConstraintSpec) own started (by kernel_rfl) Tryd.func3
    (witness_row_at (enc := enc) (C := Tryd.checked) false (laidWorld os) #[.string ByteArray.empty] rfl (by kernel_rfl) (by kernel_rfl) (by kernel_rfl)
      (OpenSpec.preRow_of_cond 8 hx (by kernel_rfl) (fun k hk => by cases hk) (by kernel_rfl) (laid_met os))) ?_
  intro W base args ds gs before hval hW _ _ _ hL hS _
  exact contract H enc W base args ds gs before hval hW hS
theorem said : Rows.FnExactReadConstraintSaid :=
  OpenClaim.holds_of_cond 3 Tryd.f3 rfl rfl rfl rfl rfl rfl rfl ⟨rfl, rfl, rfl, rfl, rfl⟩ rfl rfl rfl rfl rfl (by kernel_rfl) Tryd.func3 (by kernel_rfl)
    (of_decide_eq_true (by kernel_rfl)) (by unfold Func.isWrapper; first | (rw [if_pos (by decide +kernel)]; kernel_rfl) | (rw [if_neg (by decide +kernel)]; exact ⟨rfl, rfl⟩))
    (fun os started H enc _ F => by rw [OpenClaim.pre_eq_preRow]; exact lifted os started H enc F)
theorem plain (f : FuncId) (fn : Func) (hf : Tryd.pinned.checked.prog.funcNamed "loop.example/g00023/laws.FnExactReadConstraint" = some f) (hfn : Tryd.pinned.checked.prog.funcs[f]? = some fn) :
    true = Tryd.pinned.checked.prog.looks [] ∧ ∀ (j : Nat) t, fn.params[j]? = some t → Tryd.pinned.checked.prog.wantsStandIn t = false := by
  obtain rfl : f = 3 := Option.some.inj ((show Tryd.prog.funcNamed "loop.example/g00023/laws.FnExactReadConstraint" = some 3 by kernel_rfl).symm.trans hf) |>.symm
  obtain rfl : fn = Tryd.f3 := (Option.some.inj (Tryd.func3.symm.trans hfn)).symm
  refine ⟨by kernel_rfl, fun j t ht => ?_⟩
  rw [Tryd.params3] at ht
  have hm := Array.mem_of_getElem? ht
  simp only [List.mem_toArray, List.mem_cons, List.not_mem_nil, or_false] at hm
  rcases hm with rfl
  · exact (show Tryd.prog.wantsStandIn 9 = false by kernel_rfl)
theorem card : Rows.FnExactReadConstraintCardSaid :=
  Claim7.holds_tied_plain_at .later [] _ _ _ _ said (fun _ h => by cases h) (by kernel_rfl) (fun _ h => by cases h) fnExactReadConstraint_row_tie rfl ⟨rfl, rfl⟩ (by kernel_rfl) rfl plain (by kernel_rfl)
#print axioms card
end Go.Proofs.YthfohhpjanoimaaDoor.fnExactReadConstraint
namespace Go.Proofs.YthfohhpjanoimaaDoor
/-- The card, under a short name, for the claim. -/
theorem fnExactReadConstraint_card : Rows.FnExactReadConstraintCardSaid := fnExactReadConstraint.card
end Go.Proofs.YthfohhpjanoimaaDoor
end
