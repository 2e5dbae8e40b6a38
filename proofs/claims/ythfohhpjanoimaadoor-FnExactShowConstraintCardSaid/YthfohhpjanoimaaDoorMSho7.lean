/- FnExactShowConstraint: the law's row and its card: its walk, the law over lists, and what the arguments read as, joined. Whatever the arguments: the call returns true, and the arguments read as before. Condition: the listed tables hold what the program's text lays (the card ties that). -/
import Derived.Test.YthfohhpjanoimaaDoorMSho2
import Derived.Test.YthfohhpjanoimaaDoorMSho3
import Derived.Test.YthfohhpjanoimaaDoorMSho4
import Derived.Test.YthfohhpjanoimaaDoorMSho5
import Derived.Test.YthfohhpjanoimaaDoorMSho6
import Derived.Test.YthfohhpjanoimaaDoorCards
import Derived.Test.YthfohhpjanoimaaDoorTie
import Derived.WalkKit
import Derived.ProofKit
import Derived.OpenShut
import Derived.ShutString
import Derived.ChangeOld
import Derived.Below
import Derived.Carry
import Derived.Deep.DeepHandedRow
import Derived.Shelf.Vars
import Derived.LaidLaws

section
set_option linter.unusedVariables false
set_option linter.unusedSimpArgs false
namespace Go.Proofs.YthfohhpjanoimaaDoor.P
open Go.RowKit Go.Proofs.YthfohhpjanoimaaDoorW.PrintWords
theorem wrap64_id {n : Int} (h1 : -9223372036854775808 ≤ n) (h2 : n ≤ 9223372036854775807) : wrap64 n = n := by
  unfold wrap64; omega
def bs (s : ByteArray) : List UInt8 := s.data.toList
theorem bs_length (s : ByteArray) : (bs s).length = s.size := data_length s
theorem toList_bs (s : ByteArray) : s.toList = bs s := Lib.toList_data s
theorem bs_inj {a b : ByteArray} (h : bs a = bs b) : a = b := by
  cases a; cases b
  simp only [bs] at h
  congr 1
  exact Array.ext' h
theorem bt_nat (s : ByteArray) (i : Nat) (h : i < s.size) : bt s (i : Int) = (((bs s)[i]'(by rw [bs_length]; exact h)).toNat : Int) := by
  unfold bt
  rw [dif_pos (by simpa using h)]
  simp [bs, ByteArray.getElem_eq_getElem_data]
theorem bs_nil {s : ByteArray} : bs s = [] ↔ s.size = 0 := by
  rw [← bs_length]
  exact List.length_eq_zero_iff.symm
theorem bs_extract (s : ByteArray) (a b : Nat) : bs (s.extract a b) = ((bs s).drop a).take (b - a) := Lib.extract_data s a b
theorem bs_upto (s : ByteArray) (b : Nat) : bs (s.extract 0 b) = (bs s).take b := by rw [bs_extract]; simp
end Go.Proofs.YthfohhpjanoimaaDoor.P
end

section
set_option linter.unusedVariables false
set_option linter.unusedSimpArgs false
namespace Go.Proofs.YthfohhpjanoimaaDoor.P
open Go.RowKit Go.Proofs.YthfohhpjanoimaaDoorW.PrintWords Go.Proofs.YthfohhpjanoimaaDoorM
end Go.Proofs.YthfohhpjanoimaaDoor.P
end

section
set_option linter.unusedVariables false
set_option linter.unusedSimpArgs false
namespace Go.Proofs.YthfohhpjanoimaaDoor.P
open Go.RowKit Go.Proofs.YthfohhpjanoimaaDoorW.PrintWords
def isL (c : Int) : Bool := decide ((97 ≤ c ∧ c ≤ 122) ∨ (65 ≤ c ∧ c ≤ 90))
def isD (c : Int) : Bool := decide (48 ≤ c ∧ c ≤ 57)
theorem impl_letter_eq (c : Int) : impl_letter.f c = some (isL c) := by
  unfold impl_letter.f isL
  repeat' split
  all_goals (congr 1; first | (rw [decide_eq_decide]; omega) | (symm; rw [decide_eq_true_iff]; omega) | (symm; rw [decide_eq_false_iff_not]; omega))
theorem impl_digit_eq (c : Int) : impl_digit.f c = some (isD c) := by
  unfold impl_digit.f isD
  repeat' split
  all_goals (congr 1; first | (rw [decide_eq_decide]; omega) | (symm; rw [decide_eq_true_iff]; omega) | (symm; rw [decide_eq_false_iff_not]; omega))
theorem spec_l1Letter_eq (c : Int) : spec_l1Letter.f c = some (isL c) := by
  unfold spec_l1Letter.f isL
  repeat' split
  all_goals (congr 1; first | (rw [decide_eq_decide]; omega) | (symm; rw [decide_eq_true_iff]; omega) | (symm; rw [decide_eq_false_iff_not]; omega))
theorem spec_l1Digit_eq (c : Int) : spec_l1Digit.f c = some (isD c) := by
  unfold spec_l1Digit.f isD
  repeat' split
  all_goals (congr 1; first | (rw [decide_eq_decide]; omega) | (symm; rw [decide_eq_true_iff]; omega) | (symm; rw [decide_eq_false_iff_not]; omega))
end Go.Proofs.YthfohhpjanoimaaDoor.P
end

section
set_option linter.unusedVariables false
set_option linter.unusedSimpArgs false
namespace Go.Proofs.YthfohhpjanoimaaDoor.P
open Go.RowKit Go.Proofs.YthfohhpjanoimaaDoorW.PrintWords Go.Proofs.YthfohhpjanoimaaDoorW.PrintLast Go.Proofs.YthfohhpjanoimaaDoorM
def isDb (c : UInt8) : Bool := isD (c.toNat : Int)
def isLb (c : UInt8) : Bool := isL (c.toNat : Int)
def numOf : List UInt8 → Nat → Nat
  | [], acc => acc
  | c :: r, acc => numOf r (acc * 10 + (c.toNat - 48))
def tok : Nat → List UInt8 → Option (List S67)
  | _, [] => some []
  | 0, _ :: _ => none
  | f + 1, c :: r =>
    if isDb c then (if ((c :: r).takeWhile isDb).length > 15 then none else (tok f ((c :: r).dropWhile isDb)).map (fun l => ⟨(numOf ((c :: r).takeWhile isDb) 0 : Nat), ⟨#[]⟩⟩ :: l))
    else if isLb c then (tok f ((c :: r).dropWhile isLb)).map (fun l => ⟨0, ⟨((c :: r).takeWhile isLb).toArray⟩⟩ :: l)
    else if c = 46 ∨ c = 45 then tok f r else none
theorem digit_rng {c : UInt8} (h : isDb c = true) : 48 ≤ c.toNat ∧ c.toNat ≤ 57 := by
  unfold isDb isD at h
  have := of_decide_eq_true h
  omega
theorem parseUintM_ok : ∀ (d : List UInt8) (acc n : Nat), (∀ c ∈ d, isDb c = true) → acc < 10 ^ n → n + d.length ≤ 15 → Lib.parseUintM 18446744073709551615 acc d = .ok (numOf d acc) ∧ numOf d acc < 1000000000000000
  | [], acc, n, _, h, hn => ⟨rfl, Nat.lt_of_lt_of_le h (Nat.le_trans (Nat.pow_le_pow_right (by decide) (show n ≤ 15 by simpa using hn)) (by decide))⟩
  | c :: d, acc, n, hd, h, hn => by
    have hc := digit_rng (hd c List.mem_cons_self)
    have h14 : acc < 100000000000000 := Nat.lt_of_lt_of_le h (Nat.le_trans (Nat.pow_le_pow_right (by decide) (show n ≤ 14 by simp at hn; omega)) (by decide))
    have ih := parseUintM_ok d (acc * 10 + (c.toNat - 48)) (n + 1) (fun x hx => hd x (List.mem_cons_of_mem _ hx)) (by rw [Nat.pow_succ]; omega) (by simp at hn ⊢; omega)
    rw [Lib.parseUintM, if_pos hc, if_neg (by omega), if_neg (by omega)]
    exact ih
theorem parseInt_ok (s : ByteArray) (h1 : 1 ≤ s.size) (h2 : s.size ≤ 15) (hd : ∀ c ∈ bs s, isDb c = true) : strconv_ParseInt.f s 10 64 = some (((numOf (bs s) 0 : Nat) : Int), none) := by
  have hl := bs_length s
  unfold strconv_ParseInt.f
  rw [if_pos ⟨rfl, rfl, by omega⟩]
  change (match Lib.parseIntB 64 (bs s) with | .ok v => some (v, none) | _ => none) = _
  generalize bs s = l at hd hl ⊢
  cases l with
  | nil => simp at hl; omega
  | cons c r =>
    obtain ⟨h3, h4⟩ := parseUintM_ok (c :: r) 0 0 hd (by decide) (by omega)
    have hc := digit_rng (hd c List.mem_cons_self)
    have e : Lib.parseIntB 64 (c :: r) = .ok ((numOf (c :: r) 0 : Nat) : Int) := by
      unfold Lib.parseIntB
      simp only []
      rw [if_neg (by omega)]
      unfold Lib.parseUintB
      rw [if_neg (by simp)]
      rw [show (2 ^ 64 - 1 : Nat) = 18446744073709551615 from by decide, h3]
      simp only []
      rw [if_neg (by rintro ⟨_, h⟩; exact absurd (Nat.le_trans (show (2 ^ 63 : Nat) ≤ 2 ^ (64 - 1) from Nat.le_refl _) h) (by omega)), if_neg (by rintro ⟨h, _⟩; omega), if_neg (by omega)]
    rw [e]
theorem tw_step (p : UInt8 → Bool) (l : List UInt8) (j : Nat) (h : j < l.length) : (l.drop j).takeWhile p = if p l[j] = true then l[j] :: (l.drop (j + 1)).takeWhile p else [] := by
  rw [List.drop_eq_getElem_cons h, List.takeWhile_cons]
theorem dw_eq (p : UInt8 → Bool) (l : List UInt8) (j : Nat) : (l.drop j).dropWhile p = l.drop (j + ((l.drop j).takeWhile p).length) := by
  rw [← List.drop_drop]
  conv => rhs; arg 2; rw [← List.takeWhile_append_dropWhile (p := p) (l := l.drop j)]
  rw [List.drop_left]
theorem tw_take (p : UInt8 → Bool) (l : List UInt8) : l.take (l.takeWhile p).length = l.takeWhile p := by
  conv => lhs; arg 2; rw [← List.takeWhile_append_dropWhile (p := p) (l := l)]
  rw [List.take_left]
theorem mem_tw (p : UInt8 → Bool) : ∀ (l : List UInt8) (c : UInt8), c ∈ l.takeWhile p → p c = true
  | [], c, h => by cases h
  | a :: l, c, h => by
    rw [List.takeWhile_cons] at h
    split at h
    · rcases List.mem_cons.1 h with rfl | h
      · assumption
      · exact mem_tw p l c h
    · cases h
theorem tw_len (p : UInt8 → Bool) (l : List UInt8) : (l.takeWhile p).length ≤ l.length := (List.takeWhile_sublist p).length_le
theorem bt_isD (s : ByteArray) (j : Nat) (h : j < s.size) : impl_digit.f (bt s (j : Int)) = some (isDb ((bs s)[j]'(by rw [bs_length]; exact h))) := by
  rw [impl_digit_eq, bt_nat s j h]; rfl
theorem bt_isL (s : ByteArray) (j : Nat) (h : j < s.size) : impl_letter.f (bt s (j : Int)) = some (isLb ((bs s)[j]'(by rw [bs_length]; exact h))) := by
  rw [impl_letter_eq, bt_nat s j h]; rfl
theorem bt_isDs (s : ByteArray) (j : Nat) (h : j < s.size) : spec_l1Digit.f (bt s (j : Int)) = some (isDb ((bs s)[j]'(by rw [bs_length]; exact h))) := by
  rw [spec_l1Digit_eq, bt_nat s j h]; rfl
theorem bt_isLs (s : ByteArray) (j : Nat) (h : j < s.size) : spec_l1Letter.f (bt s (j : Int)) = some (isLb ((bs s)[j]'(by rw [bs_length]; exact h))) := by
  rw [spec_l1Letter_eq, bt_nat s j h]; rfl
theorem impl_parts_l1 (s : ByteArray) (hs : s.size ≤ 30) (acc : List S67) (ha : acc.length ≤ 30) (i : Nat) (v : Int) : ∀ (n j k : Nat) (e : Nat), j + n = s.size → i ≤ j → n + 1 ≤ k → e = j + (((bs s).drop j).takeWhile isDb).length →
    (e - i > 15 → impl_parts.l1 k s acc (i : Int) (j : Int) = some ([], false)) ∧
    (e - i ≤ 15 → strconv_ParseInt.f (s.extract i e) 10 64 = some (v, none) → ∀ r, (∀ k', k ≤ k' + n + 1 → impl_parts.l0 k' s (acc ++ [⟨v, ⟨#[]⟩⟩]) (e : Int) = some r) → impl_parts.l1 k s acc (i : Int) (j : Int) = some r) := by
  intro n
  induction n with
  | zero =>
    intro j k e hj hi hk he
    obtain ⟨k, rfl⟩ : ∃ k', k = k' + 1 := ⟨k - 1, by omega⟩
    rw [List.drop_eq_nil_of_le (by rw [bs_length]; omega)] at he
    simp at he
    subst he
    have hw : wrap64 ((e : Int) - (i : Int)) = (e : Int) - (i : Int) := wrap64_id (by omega) (by omega)
    rw [impl_parts.l1, if_neg (by omega), hw]
    refine ⟨fun h => by rw [if_pos (by omega)], fun h hp r hr => ?_⟩
    rw [if_neg (by omega), if_pos (by omega), if_pos (by omega), if_pos (by omega)]
    simp only [Int.toNat_natCast]
    rw [hp, Option.bind_some, if_pos (by omega)]
    exact hr k (by omega)
  | succ n ih =>
    intro j k e hj hi hk he
    obtain ⟨k, rfl⟩ : ∃ k', k = k' + 1 := ⟨k - 1, by omega⟩
    have hjl : j < (bs s).length := by rw [bs_length]; omega
    rw [tw_step isDb (bs s) j hjl] at he
    rw [impl_parts.l1, if_pos (by omega), if_pos (by omega), bt_isD s j (by omega), Option.bind_some]
    cases hd : isDb (bs s)[j] with
    | true =>
      rw [if_pos hd, List.length_cons] at he
      have hw : wrap64 ((j : Int) + 1) = ((j + 1 : Nat) : Int) := by rw [wrap64_id (by omega) (by omega)]; omega
      rw [if_pos rfl, hw]
      obtain ⟨h1, h2⟩ := ih (j + 1) k e (by omega) (by omega) (by omega) (by omega)
      exact ⟨h1, fun h hp r hr => h2 h hp r (fun k' hk' => hr k' (by omega))⟩
    | false =>
      rw [if_neg (by simp [hd])] at he
      simp at he
      subst he
      have hw : wrap64 ((e : Int) - (i : Int)) = (e : Int) - (i : Int) := wrap64_id (by omega) (by omega)
      rw [if_neg (by decide), hw]
      refine ⟨fun h => by rw [if_pos (by omega)], fun h hp r hr => ?_⟩
      rw [if_neg (by omega), if_pos (by omega), if_pos (by omega), if_pos (by omega)]
      simp only [Int.toNat_natCast]
      rw [hp, Option.bind_some, if_pos (by omega)]
      exact hr k (by omega)
theorem impl_parts_l2 (s : ByteArray) (hs : s.size ≤ 30) (acc : List S67) (ha : acc.length ≤ 30) (i : Nat) : ∀ (n j k : Nat) (e : Nat), j + n = s.size → i ≤ j → n + 1 ≤ k → e = j + (((bs s).drop j).takeWhile isLb).length →
    ∀ r, (∀ k', k ≤ k' + n + 1 → impl_parts.l0 k' s (acc ++ [⟨0, s.extract i e⟩]) (e : Int) = some r) → impl_parts.l2 k s acc (i : Int) (j : Int) = some r := by
  intro n
  induction n with
  | zero =>
    intro j k e hj hi hk he r hr
    obtain ⟨k, rfl⟩ : ∃ k', k = k' + 1 := ⟨k - 1, by omega⟩
    rw [List.drop_eq_nil_of_le (by rw [bs_length]; omega)] at he
    simp at he
    subst he
    rw [impl_parts.l2, if_neg (by omega), if_pos (by omega), if_pos (by omega), if_pos (by omega), if_pos (by omega)]
    exact hr k (by omega)
  | succ n ih =>
    intro j k e hj hi hk he r hr
    obtain ⟨k, rfl⟩ : ∃ k', k = k' + 1 := ⟨k - 1, by omega⟩
    have hjl : j < (bs s).length := by rw [bs_length]; omega
    rw [tw_step isLb (bs s) j hjl] at he
    rw [impl_parts.l2, if_pos (by omega), if_pos (by omega), bt_isL s j (by omega), Option.bind_some]
    cases hd : isLb (bs s)[j] with
    | true =>
      rw [if_pos hd, List.length_cons] at he
      have hw : wrap64 ((j : Int) + 1) = ((j + 1 : Nat) : Int) := by rw [wrap64_id (by omega) (by omega)]; omega
      rw [if_pos rfl, hw]
      exact ih (j + 1) k e (by omega) (by omega) (by omega) (by omega) r (fun k' hk' => hr k' (by omega))
    | false =>
      rw [if_neg (by simp [hd])] at he
      simp at he
      subst he
      rw [if_neg (by decide), if_pos (by omega), if_pos (by omega), if_pos (by omega), if_pos (by omega)]
      exact hr k (by omega)
def ansI (acc : List S67) : Option (List S67) → List S67 × Bool
  | some l => (acc ++ l, true)
  | none => ([], false)
theorem extract_tw (s : ByteArray) (p : UInt8 → Bool) (i : Nat) : bs (s.extract i (i + (((bs s).drop i).takeWhile p).length)) = ((bs s).drop i).takeWhile p := by
  rw [bs_extract, Nat.add_sub_cancel_left, tw_take]
theorem ba_eq (s : ByteArray) : s = ⟨(bs s).toArray⟩ := by
  apply bs_inj
  simp [bs]
theorem impl_parts_l0 (s : ByteArray) (hs : s.size ≤ 30) : ∀ (m i k : Nat) (acc : List S67), i ≤ s.size → s.size - i ≤ m → 64 * (m + 1) ≤ k → acc.length ≤ i →
    impl_parts.l0 k s acc (i : Int) = some (ansI acc (tok m ((bs s).drop i))) := by
  intro m
  induction m with
  | zero =>
    intro i k acc hi hm hk ha
    obtain ⟨k, rfl⟩ : ∃ k', k = k' + 1 := ⟨k - 1, by omega⟩
    rw [impl_parts.l0, if_neg (by omega), List.drop_eq_nil_of_le (by rw [bs_length]; omega), tok, ansI, List.append_nil]
  | succ m ih =>
    intro i k acc hi hm hk ha
    obtain ⟨k, rfl⟩ : ∃ k', k = k' + 1 := ⟨k - 1, by omega⟩
    by_cases hlt : i < s.size
    · have hil : i < (bs s).length := by rw [bs_length]; exact hlt
      have hd := List.drop_eq_getElem_cons hil
      have hT : tok (m + 1) ((bs s).drop i) = if isDb (bs s)[i] then (if (((bs s).drop i).takeWhile isDb).length > 15 then none else (tok m (((bs s).drop i).dropWhile isDb)).map (fun l => ⟨(numOf (((bs s).drop i).takeWhile isDb) 0 : Nat), ⟨#[]⟩⟩ :: l))
          else if isLb (bs s)[i] then (tok m (((bs s).drop i).dropWhile isLb)).map (fun l => ⟨0, ⟨(((bs s).drop i).takeWhile isLb).toArray⟩⟩ :: l)
          else if (bs s)[i] = 46 ∨ (bs s)[i] = 45 then tok m ((bs s).drop (i + 1)) else none := by rw [hd, tok]
      rw [impl_parts.l0, if_pos (by omega), if_pos (by omega), bt_isD s i hlt, Option.bind_some]
      have hone : ∀ p : UInt8 → Bool, p (bs s)[i] = true → 1 ≤ (((bs s).drop i).takeWhile p).length := fun p h => by rw [tw_step p (bs s) i hil, if_pos h]; simp
      have hle : ∀ p : UInt8 → Bool, (((bs s).drop i).takeWhile p).length ≤ s.size - i := fun p => by have := tw_len p ((bs s).drop i); rwa [List.length_drop, bs_length] at this
      cases hD : isDb (bs s)[i] with
      | true =>
        rw [hD, if_pos rfl] at hT
        have h1 := hone isDb hD
        have h2 := hle isDb
        obtain ⟨q1, q2⟩ := impl_parts_l1 s hs acc (by omega) i (numOf (((bs s).drop i).takeWhile isDb) 0 : Nat) (s.size - i) i k (i + (((bs s).drop i).takeWhile isDb).length) (by omega) (Nat.le_refl _) (by omega) rfl
        rw [if_pos rfl, hT]
        by_cases h15 : (((bs s).drop i).takeWhile isDb).length > 15
        · rw [if_pos h15, q1 (by omega)]; rfl
        · rw [if_neg h15]
          have hx := extract_tw s isDb i
          have hxs : (s.extract i (i + (((bs s).drop i).takeWhile isDb).length)).size = (((bs s).drop i).takeWhile isDb).length := by rw [← bs_length, hx]
          refine q2 (by omega) ?_ _ (fun k' hk' => ?_)
          · rw [parseInt_ok _ (by omega) (by omega) (fun c hc => by rw [hx] at hc; exact mem_tw isDb _ c hc), hx]
          · rw [ih _ k' _ (by omega) (by omega) (by omega) (by simp; omega), dw_eq]
            cases tok m ((bs s).drop (i + (((bs s).drop i).takeWhile isDb).length)) <;> simp [ansI]
      | false =>
        rw [hD, if_neg (by decide)] at hT
        rw [if_neg (by decide), bt_isL s i hlt, Option.bind_some]
        cases hL : isLb (bs s)[i] with
        | true =>
          rw [hL, if_pos rfl] at hT
          have h1 := hone isLb hL
          have h2 := hle isLb
          rw [if_pos rfl, hT]
          refine impl_parts_l2 s hs acc (by omega) i (s.size - i) i k (i + (((bs s).drop i).takeWhile isLb).length) (by omega) (Nat.le_refl _) (by omega) rfl _ (fun k' hk' => ?_)
          rw [ih _ k' _ (by omega) (by omega) (by omega) (by simp; omega), dw_eq]
          have hx := ba_eq (s.extract i (i + (((bs s).drop i).takeWhile isLb).length))
          rw [extract_tw s isLb i] at hx
          rw [hx]
          cases tok m ((bs s).drop (i + (((bs s).drop i).takeWhile isLb).length)) <;> simp [ansI]
        | false =>
          rw [hL, if_neg (by decide)] at hT
          have hw : wrap64 ((i : Int) + 1) = ((i + 1 : Nat) : Int) := by rw [wrap64_id (by omega) (by omega)]; omega
          have hb := bt_nat s i hlt
          have e46 : bt s (i : Int) = 46 ↔ (bs s)[i] = 46 := by
            rw [hb]
            constructor
            · intro h; exact UInt8.toNat_inj.mp (by show _ = 46; omega)
            · intro h; rw [h]; rfl
          have e45 : bt s (i : Int) = 45 ↔ (bs s)[i] = 45 := by
            rw [hb]
            constructor
            · intro h; exact UInt8.toNat_inj.mp (by show _ = 45; omega)
            · intro h; rw [h]; rfl
          rw [if_neg (by decide), hw, hT]
          by_cases h46 : (bs s)[i] = 46
          · rw [if_pos (e46.2 h46), if_pos (.inl h46), ih (i + 1) k acc (by omega) (by omega) (by omega) (by omega)]
          · rw [if_neg (fun h => h46 (e46.1 h))]
            by_cases h45 : (bs s)[i] = 45
            · rw [if_pos (e45.2 h45), if_pos (.inr h45), ih (i + 1) k acc (by omega) (by omega) (by omega) (by omega)]
            · rw [if_neg (fun h => h45 (e45.1 h)), if_neg (fun h => h.elim h46 h45)]
              rfl
    · rw [impl_parts.l0, if_neg (by omega), List.drop_eq_nil_of_le (by rw [bs_length]; omega), tok, ansI, List.append_nil]
def verOk (s : ByteArray) : Bool := decide (1 ≤ s.size) && (decide (s.size ≤ 30) && (isD (bt s 0) && (tok 30 (bs s)).isSome))
def toks (s : ByteArray) : List S67 := (tok 30 (bs s)).getD []
theorem impl_parts_eq (s : ByteArray) (k : Nat) (hk : 2000 ≤ k) : impl_parts.f k s = some (if verOk s = true then (toks s, true) else ([], false)) := by
  obtain ⟨k, rfl⟩ : ∃ k', k = k' + 1 := ⟨k - 1, by omega⟩
  unfold impl_parts.f verOk toks
  by_cases h1 : s.size < 1
  · rw [if_pos (by omega), impl_parts.j0, if_pos rfl, decide_eq_false (by omega)]; rfl
  · rw [if_neg (by omega)]
    by_cases h2 : s.size > 30
    · rw [if_pos (by omega), impl_parts.j0, if_pos rfl, decide_eq_false (p := s.size ≤ 30) (by omega)]
      simp
    · rw [if_neg (by omega), if_pos (by omega), impl_digit_eq, Option.bind_some, impl_parts.j0]
      cases hd : isD (bt s 0) with
      | false => simp
      | true =>
        have := impl_parts_l0 s (by omega) 30 0 k [] (by omega) (by omega) (by omega) (by simp)
        rw [show ((0 : Nat) : Int) = 0 from rfl, List.drop_zero] at this
        rw [if_neg (by decide), this]
        cases tok 30 (bs s) <;> simp [ansI, show 1 ≤ s.size by omega, show s.size ≤ 30 by omega]
theorem spec_l1_step (s : ByteArray) (hs : s.size ≤ 30) (acc : List S88) (ha : acc.length ≤ 30) (fr j k : Nat) (x : Int) (hj : j < s.size) (hi : fr ≤ j) :
    ∃ y, spec_l6Parts.l1 (k + 2) s acc (j : Int) (fr : Int) x = if isDb ((bs s)[j]'(by rw [bs_length]; exact hj)) = true then (if j + 1 - fr > 15 then some (acc, false) else spec_l6Parts.l1 k s acc ((j + 1 : Nat) : Int) (fr : Int) y) else spec_l6Parts.l0 k s (acc ++ [⟨⟨#[]⟩, x⟩]) (j : Int) := by
  refine ⟨wrap64 ((wrap64 (x * 10)) + (((bt s (j : Int)) - 48) % 256)), ?_⟩
  have hj1 : (j : Int) < (s.size : Int) := by omega
  have hj0 : (0 : Int) ≤ (j : Int) := by omega
  have hacc : acc.length < 5864062014805 := by omega
  have hw : wrap64 ((j : Int) + 1) = ((j + 1 : Nat) : Int) := by rw [wrap64_id (by omega) (by omega)]; omega
  have hw2 : wrap64 (((j + 1 : Nat) : Int) - (fr : Int)) = ((j + 1 : Nat) : Int) - (fr : Int) := wrap64_id (by omega) (by omega)
  rw [spec_l6Parts.l1, if_pos hj1, if_pos hj0, bt_isDs s j hj, Option.bind_some, spec_l6Parts.j3]
  simp only [if_pos hj0, if_pos hj1, if_pos hacc, hw, hw2]
  clear hw hw2
  by_cases h : j + 1 - fr > 15
  · rw [if_pos h, if_pos (show ((j + 1 : Nat) : Int) - (fr : Int) > 15 by omega)]
  · rw [if_neg h, if_neg (show ¬ ((j + 1 : Nat) : Int) - (fr : Int) > 15 by omega)]
theorem spec_parts_l1 (s : ByteArray) (hs : s.size ≤ 30) (acc : List S88) (ha : acc.length ≤ 30) (fr : Nat) : ∀ (n j k : Nat) (x : Int) (e : Nat), j + n = s.size → fr ≤ j → j - fr ≤ 15 → 2 * n + 3 ≤ k → e = j + (((bs s).drop j).takeWhile isDb).length →
    (e - fr > 15 → ∃ q, spec_l6Parts.l1 k s acc (j : Int) (fr : Int) x = some (q, false)) ∧
    (e - fr ≤ 15 → ∃ y, ∀ r, (∀ k', k ≤ k' + 2 * n + 3 → spec_l6Parts.l0 k' s (acc ++ [⟨⟨#[]⟩, y⟩]) (e : Int) = some r) → spec_l6Parts.l1 k s acc (j : Int) (fr : Int) x = some r) := by
  intro n
  induction n with
  | zero =>
    intro j k x e hj hi h15 hk he
    obtain ⟨k, rfl⟩ : ∃ k', k = k' + 2 := ⟨k - 2, by omega⟩
    rw [List.drop_eq_nil_of_le (by rw [bs_length]; omega)] at he
    simp at he
    subst he
    refine ⟨fun h => by omega, fun _ => ⟨x, fun r hr => ?_⟩⟩
    rw [spec_l6Parts.l1, if_neg (by omega), spec_l6Parts.j3, if_neg (by decide), if_pos (by omega)]
    exact hr k (by omega)
  | succ n ih =>
    intro j k x e hj hi h15 hk he
    obtain ⟨k, rfl⟩ : ∃ k', k = k' + 2 := ⟨k - 2, by omega⟩
    have hjl : j < (bs s).length := by rw [bs_length]; omega
    rw [tw_step isDb (bs s) j hjl] at he
    obtain ⟨y0, hstep⟩ := spec_l1_step s hs acc ha fr j k x (by omega) hi
    rw [hstep]
    cases hd : isDb (bs s)[j] with
    | true =>
      rw [if_pos hd, List.length_cons] at he
      rw [if_pos rfl]
      by_cases h16 : j + 1 - fr > 15
      · rw [if_pos h16]
        exact ⟨fun _ => ⟨_, rfl⟩, fun h => by omega⟩
      · rw [if_neg h16]
        obtain ⟨q1, q2⟩ := ih (j + 1) k y0 e (by omega) (by omega) (by omega) (by omega) (by omega)
        refine ⟨q1, fun h => ?_⟩
        obtain ⟨y, hy⟩ := q2 h
        exact ⟨y, fun r hr => hy r (fun k' hk' => hr k' (by omega))⟩
    | false =>
      rw [if_neg (by simp [hd])] at he
      simp at he
      subst he
      rw [if_neg (by decide)]
      exact ⟨fun h => by omega, fun _ => ⟨x, fun r hr => hr k (by omega)⟩⟩
theorem spec_parts_l2 (s : ByteArray) (hs : s.size ≤ 30) (acc : List S88) (ha : acc.length ≤ 30) (i : Nat) : ∀ (n j k : Nat) (e : Nat), j + n = s.size → i ≤ j → n + 1 ≤ k → e = j + (((bs s).drop j).takeWhile isLb).length →
    ∃ y : S88, ∀ r, (∀ k', k ≤ k' + n + 1 → spec_l6Parts.l0 k' s (acc ++ [y]) (e : Int) = some r) → spec_l6Parts.l2 k s acc (j : Int) (i : Int) = some r := by
  intro n
  induction n with
  | zero =>
    intro j k e hj hi hk he
    obtain ⟨k, rfl⟩ : ∃ k', k = k' + 1 := ⟨k - 1, by omega⟩
    rw [List.drop_eq_nil_of_le (by rw [bs_length]; omega)] at he
    simp at he
    subst he
    refine ⟨⟨s.extract i e, 0⟩, fun r hr => ?_⟩
    rw [spec_l6Parts.l2, if_neg (by omega), if_pos (by omega), if_pos (by omega), if_pos (by omega), if_pos (by omega)]
    exact hr k (by omega)
  | succ n ih =>
    intro j k e hj hi hk he
    obtain ⟨k, rfl⟩ : ∃ k', k = k' + 1 := ⟨k - 1, by omega⟩
    have hjl : j < (bs s).length := by rw [bs_length]; omega
    rw [tw_step isLb (bs s) j hjl] at he
    rw [spec_l6Parts.l2, if_pos (by omega), if_pos (by omega), bt_isLs s j (by omega), Option.bind_some]
    cases hd : isLb (bs s)[j] with
    | true =>
      rw [if_pos hd, List.length_cons] at he
      have hw : wrap64 ((j : Int) + 1) = ((j + 1 : Nat) : Int) := by rw [wrap64_id (by omega) (by omega)]; omega
      obtain ⟨y, hy⟩ := ih (j + 1) k e (by omega) (by omega) (by omega) (by omega)
      refine ⟨y, fun r hr => ?_⟩
      rw [if_pos rfl, hw]
      exact hy r (fun k' hk' => hr k' (by omega))
    | false =>
      rw [if_neg (by simp [hd])] at he
      simp at he
      subst he
      refine ⟨⟨s.extract i e, 0⟩, fun r hr => ?_⟩
      rw [if_neg (by decide), if_pos (by omega), if_pos (by omega), if_pos (by omega), if_pos (by omega)]
      exact hr k (by omega)
theorem spec_parts_l0 (s : ByteArray) (hs : s.size ≤ 30) : ∀ (m i : Nat) (acc : List S88), i ≤ s.size → s.size - i ≤ m → acc.length ≤ i →
    ∃ q, ∀ k, 128 * (m + 1) ≤ k → spec_l6Parts.l0 k s acc (i : Int) = some (q, (tok m ((bs s).drop i)).isSome) := by
  intro m
  induction m with
  | zero =>
    intro i acc hi hm ha
    refine ⟨acc, fun k hk => ?_⟩
    obtain ⟨k, rfl⟩ : ∃ k', k = k' + 1 := ⟨k - 1, by omega⟩
    rw [spec_l6Parts.l0, if_neg (by omega), List.drop_eq_nil_of_le (by rw [bs_length]; omega), tok]; rfl
  | succ m ih =>
    intro i acc hi hm ha
    by_cases hlt : i < s.size
    · have hil : i < (bs s).length := by rw [bs_length]; exact hlt
      have hd := List.drop_eq_getElem_cons hil
      have hT : (tok (m + 1) ((bs s).drop i)).isSome = if isDb (bs s)[i] then (if (((bs s).drop i).takeWhile isDb).length > 15 then false else (tok m (((bs s).drop i).dropWhile isDb)).isSome)
          else if isLb (bs s)[i] then (tok m (((bs s).drop i).dropWhile isLb)).isSome
          else if (bs s)[i] = 46 ∨ (bs s)[i] = 45 then (tok m ((bs s).drop (i + 1))).isSome else false := by
        rw [hd, tok, ← hd]
        repeat' split
        all_goals simp_all
      have hone : ∀ p : UInt8 → Bool, p (bs s)[i] = true → 1 ≤ (((bs s).drop i).takeWhile p).length := fun p h => by rw [tw_step p (bs s) i hil, if_pos h]; simp
      have hle : ∀ p : UInt8 → Bool, (((bs s).drop i).takeWhile p).length ≤ s.size - i := fun p => by have := tw_len p ((bs s).drop i); rwa [List.length_drop, bs_length] at this
      have hk0 : ∀ k, 128 * (m + 1 + 1) ≤ k → ∃ k', k = k' + 1 := fun k hk => ⟨k - 1, by omega⟩
      cases hD : isDb (bs s)[i] with
      | true =>
        rw [hD, if_pos rfl] at hT
        have h1 := hone isDb hD
        have h2 := hle isDb
        by_cases h15 : (((bs s).drop i).takeWhile isDb).length > 15
        · rw [if_pos h15] at hT
          obtain ⟨k1, hk1⟩ := hk0 (128 * (m + 1 + 1)) (Nat.le_refl _)
          obtain ⟨q, hq⟩ := (spec_parts_l1 s hs acc (by omega) i (s.size - i) i k1 0 (i + (((bs s).drop i).takeWhile isDb).length) (by omega) (Nat.le_refl _) (by omega) (by omega) rfl).1 (by omega)
          refine ⟨q, fun k hk => ?_⟩
          have h0 : spec_l6Parts.l0 (128 * (m + 1 + 1)) s acc (i : Int) = some (q, false) := by
            rw [hk1, spec_l6Parts.l0, if_pos (by omega), if_pos (by omega), bt_isDs s i hlt, Option.bind_some, hD, if_pos rfl, hq]
          rw [hT]
          exact at_rounds (fun k => (spec_l6Parts.mono_l k).2.1 _ _ _) hk h0
        · rw [if_neg h15] at hT
          obtain ⟨k1, hk1⟩ := hk0 (128 * (m + 1 + 1)) (Nat.le_refl _)
          obtain ⟨y, hy⟩ := (spec_parts_l1 s hs acc (by omega) i (s.size - i) i k1 0 (i + (((bs s).drop i).takeWhile isDb).length) (by omega) (Nat.le_refl _) (by omega) (by omega) rfl).2 (by omega)
          obtain ⟨q, hq⟩ := ih (i + (((bs s).drop i).takeWhile isDb).length) (acc ++ [⟨⟨#[]⟩, y⟩]) (by omega) (by omega) (by simp; omega)
          refine ⟨q, fun k hk => ?_⟩
          have h0 : spec_l6Parts.l0 (128 * (m + 1 + 1)) s acc (i : Int) = some (q, (tok m (((bs s).drop i).dropWhile isDb)).isSome) := by
            rw [hk1, spec_l6Parts.l0, if_pos (by omega), if_pos (by omega), bt_isDs s i hlt, Option.bind_some, hD, if_pos rfl, dw_eq]
            exact hy _ (fun k' hk' => hq k' (by omega))
          rw [hT]
          exact at_rounds (fun k => (spec_l6Parts.mono_l k).2.1 _ _ _) hk h0
      | false =>
        rw [hD, if_neg (by decide)] at hT
        cases hL : isLb (bs s)[i] with
        | true =>
          rw [hL, if_pos rfl] at hT
          have h1 := hone isLb hL
          have h2 := hle isLb
          obtain ⟨k1, hk1⟩ := hk0 (128 * (m + 1 + 1)) (Nat.le_refl _)
          obtain ⟨y, hy⟩ := spec_parts_l2 s hs acc (by omega) i (s.size - i) i k1 (i + (((bs s).drop i).takeWhile isLb).length) (by omega) (Nat.le_refl _) (by omega) rfl
          obtain ⟨q, hq⟩ := ih (i + (((bs s).drop i).takeWhile isLb).length) (acc ++ [y]) (by omega) (by omega) (by simp; omega)
          refine ⟨q, fun k hk => ?_⟩
          have h0 : spec_l6Parts.l0 (128 * (m + 1 + 1)) s acc (i : Int) = some (q, (tok m (((bs s).drop i).dropWhile isLb)).isSome) := by
            rw [hk1, spec_l6Parts.l0, if_pos (by omega), if_pos (by omega), bt_isDs s i hlt, Option.bind_some, hD, if_neg (by decide), bt_isLs s i hlt, Option.bind_some, hL, if_pos rfl, dw_eq]
            exact hy _ (fun k' hk' => hq k' (by omega))
          rw [hT]
          exact at_rounds (fun k => (spec_l6Parts.mono_l k).2.1 _ _ _) hk h0
        | false =>
          rw [hL, if_neg (by decide)] at hT
          have hw : wrap64 ((i : Int) + 1) = ((i + 1 : Nat) : Int) := by rw [wrap64_id (by omega) (by omega)]; omega
          have hb := bt_nat s i hlt
          have e46 : bt s (i : Int) = 46 ↔ (bs s)[i] = 46 := by
            rw [hb]
            constructor
            · intro h; exact UInt8.toNat_inj.mp (by show _ = 46; omega)
            · intro h; rw [h]; rfl
          have e45 : bt s (i : Int) = 45 ↔ (bs s)[i] = 45 := by
            rw [hb]
            constructor
            · intro h; exact UInt8.toNat_inj.mp (by show _ = 45; omega)
            · intro h; rw [h]; rfl
          obtain ⟨q, hq⟩ := ih (i + 1) acc (by omega) (by omega) (by omega)
          by_cases hc : (bs s)[i] = 46 ∨ (bs s)[i] = 45
          · refine ⟨q, fun k hk => ?_⟩
            obtain ⟨k, rfl⟩ := hk0 k hk
            rw [spec_l6Parts.l0, if_pos (by omega), if_pos (by omega), bt_isDs s i hlt, Option.bind_some, hD, if_neg (by decide), bt_isLs s i hlt, Option.bind_some, hL, if_neg (by decide), hw, hT, if_pos hc]
            by_cases h46 : (bs s)[i] = 46
            · rw [if_pos (e46.2 h46)]; exact hq k (by omega)
            · rw [if_neg (fun h => h46 (e46.1 h)), if_pos (e45.2 (hc.resolve_left h46))]; exact hq k (by omega)
          · refine ⟨acc, fun k hk => ?_⟩
            obtain ⟨k, rfl⟩ := hk0 k hk
            rw [spec_l6Parts.l0, if_pos (by omega), if_pos (by omega), bt_isDs s i hlt, Option.bind_some, hD, if_neg (by decide), bt_isLs s i hlt, Option.bind_some, hL, if_neg (by decide), hT, if_neg hc,
              if_neg (fun h => hc (.inl (e46.1 h))), if_neg (fun h => hc (.inr (e45.1 h)))]
    · refine ⟨acc, fun k hk => ?_⟩
      obtain ⟨k, rfl⟩ : ∃ k', k = k' + 1 := ⟨k - 1, by omega⟩
      rw [spec_l6Parts.l0, if_neg (by omega), List.drop_eq_nil_of_le (by rw [bs_length]; omega), tok]; rfl
theorem spec_VersionOk_eq (s : ByteArray) (k : Nat) (hk : 4100 ≤ k) : spec_VersionOk.f k s = some (verOk s) := by
  obtain ⟨k, rfl⟩ : ∃ k', k = k' + 1 := ⟨k - 1, by omega⟩
  unfold spec_VersionOk.f spec_l6Parts.f verOk
  rw [Option.bind_some]
  by_cases h1 : s.size < 1
  · rw [if_pos (by omega), spec_l6Parts.j0, if_pos rfl, decide_eq_false (by omega)]; rfl
  · rw [if_neg (by omega)]
    by_cases h2 : s.size > 30
    · rw [if_pos (by omega), spec_l6Parts.j0, if_pos rfl, decide_eq_false (p := s.size ≤ 30) (by omega)]
      simp
    · rw [if_neg (by omega), if_pos (by omega), spec_l1Digit_eq, Option.bind_some, spec_l6Parts.j0]
      cases hd : isD (bt s 0) with
      | false => simp
      | true =>
        obtain ⟨q, hq⟩ := spec_parts_l0 s (by omega) 30 0 [] (by omega) (by omega) (by simp)
        have := hq k (by omega)
        rw [show ((0 : Nat) : Int) = 0 from rfl, List.drop_zero] at this
        simp [this, show 1 ≤ s.size by omega, show s.size ≤ 30 by omega]
end Go.Proofs.YthfohhpjanoimaaDoor.P
end

section
set_option linter.unusedVariables false
set_option linter.unusedSimpArgs false
namespace Go.Proofs.YthfohhpjanoimaaDoor.P
open Go.RowKit Go.Proofs.YthfohhpjanoimaaDoorW.PrintWords Go.Proofs.YthfohhpjanoimaaDoorW.PrintLast Go.Proofs.YthfohhpjanoimaaDoorM
def gv (l : List S67) (i : Nat) : S67 := l.getD i z67
def rk (l : List S67) (i : Nat) : Int := if l.length ≤ i then 1 else if bs (gv l i).f1 = [] then 2 else 0
def sgn (a b : Int) : Int := if a < b then -1 else if b < a then 1 else 0
def kc (x y : List S67) (i : Nat) : Int := if rk x i = rk y i then (if rk x i = 0 then Lib.compareBytes (bs (gv x i).f1) (bs (gv y i).f1) else if rk x i = 2 then sgn (gv x i).f0 (gv y i).f0 else 0) else sgn (rk x i) (rk y i)
def cmpN (x y : List S67) : Nat → Nat → Int
  | 0, _ => 0
  | m + 1, i => if kc x y i = 0 then cmpN x y m (i + 1) else kc x y i
def vc (a b : ByteArray) : Int := cmpN (toks a) (toks b) 64 0
end Go.Proofs.YthfohhpjanoimaaDoor.P
end

section
set_option linter.unusedVariables false
set_option linter.unusedSimpArgs false
namespace Go.Proofs.YthfohhpjanoimaaDoor.P
open Go.RowKit Go.Proofs.YthfohhpjanoimaaDoorW.PrintWords Go.Proofs.YthfohhpjanoimaaDoorW.PrintLast Go.Proofs.YthfohhpjanoimaaDoorM
end Go.Proofs.YthfohhpjanoimaaDoor.P
end

section
set_option linter.unusedVariables false
set_option linter.unusedSimpArgs false
namespace Go.Proofs.YthfohhpjanoimaaDoor.P
open Go.RowKit Go.Proofs.YthfohhpjanoimaaDoorW.PrintWords Go.Proofs.YthfohhpjanoimaaDoorW.PrintLast Go.Proofs.YthfohhpjanoimaaDoorM
def pcsG (sub : List UInt8) : List UInt8 → List UInt8 → List (List UInt8)
  | cur, [] => [cur]
  | cur, b :: l => if sub.isPrefixOf (b :: l) = true then cur :: pcsG sub [] (l.drop (sub.length - 1)) else pcsG sub (cur ++ [b]) l
termination_by _ l => l.length
decreasing_by all_goals (simp only [List.length_cons, List.length_drop]; omega)
theorem indexG (b : UInt8) (l sub : List UInt8) : Lib.index (b :: l) sub = if sub.isPrefixOf (b :: l) = true then 0 else if Lib.index l sub = -1 then -1 else Lib.index l sub + 1 := by
  rw [Lib.index]
  by_cases h : Lib.index l sub = -1 <;> simp [h]
theorem pcsG_miss (sub : List UInt8) (hs : sub ≠ []) : ∀ (l cur : List UInt8), Lib.index l sub = -1 → pcsG sub cur l = [cur ++ l]
  | [], cur, _ => by rw [pcsG]; simp
  | b :: l, cur, h => by
    rw [indexG] at h
    by_cases hb : sub.isPrefixOf (b :: l) = true
    · rw [if_pos hb] at h; omega
    · rw [if_neg hb] at h
      by_cases hi : Lib.index l sub = -1
      · rw [pcsG, if_neg hb, pcsG_miss sub hs l _ hi]; simp
      · rw [if_neg hi] at h
        have := Lib.index_ge l sub
        omega
theorem pcsG_hit (sub : List UInt8) (hs : sub ≠ []) : ∀ (l cur : List UInt8) (i : Nat), Lib.index l sub = i → pcsG sub cur l = (cur ++ l.take i) :: pcsG sub [] (l.drop (i + sub.length))
  | [], cur, i, h => by
    rw [Lib.index] at h
    rw [if_neg (by simpa using hs)] at h
    omega
  | b :: l, cur, i, h => by
    have hl : 1 ≤ sub.length := by cases sub with | nil => exact absurd rfl hs | cons _ _ => simp
    rw [indexG] at h
    by_cases hb : sub.isPrefixOf (b :: l) = true
    · rw [if_pos hb] at h
      obtain rfl : i = 0 := by omega
      rw [pcsG, if_pos hb]
      obtain ⟨m, hm⟩ : ∃ m, sub.length = m + 1 := ⟨sub.length - 1, by omega⟩
      rw [hm]
      simp
    · rw [if_neg hb] at h
      by_cases hi : Lib.index l sub = -1
      · rw [if_pos hi] at h; omega
      · rw [if_neg hi] at h
        have := Lib.index_ge l sub
        obtain ⟨j, rfl⟩ : ∃ j, i = j + 1 := ⟨i - 1, by omega⟩
        rw [pcsG, if_neg hb, pcsG_hit sub hs l _ j (by omega), show j + 1 + sub.length = (j + sub.length) + 1 by omega]
        simp
theorem splitK_pcsG (sub : List UInt8) (hs : sub ≠ []) : ∀ (k : Nat) (l : List UInt8), Lib.count l sub = k → Lib.splitK sub 0 k l = pcsG sub [] l
  | 0, l, h => by
    have hi : Lib.index l sub = -1 := by
      rcases Lib.index_spec l sub with ⟨h1, _⟩ | ⟨i, h1, _⟩
      · exact h1
      · rw [Lib.count_hit hs h1] at h; omega
    rw [pcsG_miss sub hs l [] hi, Lib.splitK]; rfl
  | k + 1, l, h => by
    rcases Lib.index_spec l sub with ⟨h1, _⟩ | ⟨i, h1, _⟩
    · rw [Lib.count_miss h1] at h; omega
    · have h2 := Lib.count_hit (s := l) (sub := sub) hs h1
      rw [Lib.splitK, if_neg (by rw [h1]; simp), pcsG_hit sub hs l [] i h1, h1]
      simp only [Int.toNat_natCast, Nat.add_zero, List.nil_append]
      rw [splitK_pcsG sub hs k _ (by omega)]
def mk (l : List UInt8) : ByteArray := ⟨l.toArray⟩
theorem bs_mk (l : List UInt8) : bs (mk l) = l := by simp [bs, mk]
theorem mk_bs (s : ByteArray) : mk (bs s) = s := bs_inj (bs_mk _)
theorem mk_size (l : List UInt8) : (mk l).size = l.length := by rw [← bs_length, bs_mk]
theorem map_bs_inj {xs : List ByteArray} {l : List (List UInt8)} (h : xs.map bs = l) : xs = l.map mk := by
  rw [← h, List.map_map]
  have : mk ∘ bs = id := by funext s; exact mk_bs s
  rw [this, List.map_id]
theorem Split_eq (s q : ByteArray) (hs : s.size < 1073741824) (hq : 1 ≤ q.size) : strings_Split.f s q = some ((pcsG (bs q) [] (bs s)).map mk) := by
  unfold strings_Split.f
  rw [if_pos (by omega), if_pos (by omega)]
  have hm := Lib.splitB_data q 0 (Lib.countB s q) s
  have hq0 : bs q ≠ [] := fun h => by rw [bs_nil] at h; omega
  have hk2 : Lib.splitK (bs q) 0 (Lib.countB s q) (bs s) = pcsG (bs q) [] (bs s) := splitK_pcsG _ hq0 _ _ rfl
  have h2 : (Lib.splitB q 0 (Lib.countB s q) s).map bs = pcsG (bs q) [] (bs s) := hm.trans hk2
  rw [map_bs_inj h2]
theorem pcsG_length (sub : List UInt8) : ∀ (n : Nat) (l cur : List UInt8), l.length ≤ n → (pcsG sub cur l).length ≤ l.length + 1 := by
  intro n
  induction n with
  | zero =>
    intro l cur h
    obtain rfl : l = [] := List.eq_nil_of_length_eq_zero (by omega)
    rw [pcsG]; simp
  | succ n ih =>
    intro l cur h
    cases l with
    | nil => rw [pcsG]; simp
    | cons b l =>
      simp only [List.length_cons] at h
      rw [pcsG]
      split
      · have := ih (l.drop (sub.length - 1)) [] (by rw [List.length_drop]; omega)
        rw [List.length_drop] at this
        simp only [List.length_cons]
        omega
      · have := ih l (cur ++ [b]) (by omega)
        simp only [List.length_cons]
        omega
theorem pcsG_sizes (sub : List UInt8) : ∀ (n : Nat) (l cur : List UInt8), l.length ≤ n → ∀ p ∈ pcsG sub cur l, p.length ≤ cur.length + l.length := by
  intro n
  induction n with
  | zero =>
    intro l cur h p hp
    obtain rfl : l = [] := List.eq_nil_of_length_eq_zero (by omega)
    rw [pcsG] at hp
    rw [List.mem_singleton.1 hp]; simp
  | succ n ih =>
    intro l cur h p hp
    cases l with
    | nil => rw [pcsG] at hp; rw [List.mem_singleton.1 hp]; simp
    | cons b l =>
      simp only [List.length_cons] at h
      rw [pcsG] at hp
      split at hp
      · rcases List.mem_cons.1 hp with rfl | hp
        · omega
        · have := ih (l.drop (sub.length - 1)) [] (by rw [List.length_drop]; omega) p hp
          simp only [List.length_drop, List.length_nil, List.length_cons] at this ⊢
          omega
      · have := ih l (cur ++ [b]) (by omega) p hp
        simp only [List.length_append, List.length_cons, List.length_nil] at this ⊢
        omega
theorem extract_mk (s : ByteArray) (a b : Nat) : s.extract a b = mk (((bs s).drop a).take (b - a)) := by rw [← mk_bs (s.extract a b), bs_extract]
theorem take_more (l : List UInt8) (a j : Nat) (ha : a ≤ j) (hj : j < l.length) : (l.drop a).take (j + 1 - a) = (l.drop a).take (j - a) ++ [l[j]] := by
  rw [show j + 1 - a = (j - a) + 1 by omega, List.take_succ_eq_append_getElem (by rw [List.length_drop]; omega)]
  congr 2
  rw [List.getElem_drop]
  congr 1
  omega
theorem spec_l6Words_l0 (s : ByteArray) (hs : s.size ≤ 1000) : ∀ (n k i : Nat) (out : List ByteArray) (w : List UInt8), 2 * n + 4 ≤ k → i + n = s.size → w.length ≤ i → out.length ≤ i →
    spec_l6Words.l0 k s out (mk w) (i : Int) = some (out ++ ((pcsG [32] w ((bs s).drop i)).filter (fun x => decide (x ≠ []))).map mk) := by
  intro n
  induction n with
  | zero =>
    intro k i out w hk hi hw ho
    obtain ⟨k, rfl⟩ : ∃ k', k = k' + 3 := ⟨k - 3, by omega⟩
    have hw1 : wrap64 ((i : Int) + 1) = (i : Int) + 1 := wrap64_id (by omega) (by omega)
    rw [List.drop_eq_nil_of_le (by rw [bs_length]; omega), pcsG, spec_l6Words.l0, if_pos (by omega), if_neg (by omega), spec_l6Words.j1, if_neg (by decide), hw1, toList_bs, bs_mk]
    by_cases hw0 : w = []
    · rw [if_pos hw0, spec_l6Words.l0, if_neg (by omega)]
      simp [hw0]
    · rw [if_neg hw0, if_pos (by omega), spec_l6Words.l0, if_neg (by omega)]
      simp [hw0]
  | succ n ih =>
    intro k i out w hk hi hw ho
    obtain ⟨k, rfl⟩ : ∃ k', k = k' + 2 := ⟨k - 2, by omega⟩
    have hw1 : wrap64 ((i : Int) + 1) = ((i + 1 : Nat) : Int) := by rw [wrap64_id (by omega) (by omega)]; omega
    have hil : i < (bs s).length := by rw [bs_length]; omega
    have hb := bt_nat s i (by omega)
    have hd := List.drop_eq_getElem_cons hil
    rw [hd, pcsG, ← hd, spec_l6Words.l0, if_pos (by omega), if_pos (by omega), if_pos (by omega), spec_l6Words.j1, hb, hw1]
    have hpre : List.isPrefixOf [32] ((bs s).drop i) = decide ((bs s)[i] = 32) := by
      rw [hd]
      by_cases h : (bs s)[i] = 32
      · simp [List.isPrefixOf, h]
      · have : ((32 : UInt8) == (bs s)[i]) = false := by simpa using fun e => h e.symm
        simp [List.isPrefixOf, this, h]
    rw [hpre]
    by_cases h32 : (bs s)[i] = 32
    · have hne : (((bs s)[i].toNat : Int) != 32) = false := by rw [h32]; rfl
      rw [hne, if_neg (by decide), decide_eq_true h32, if_pos rfl, toList_bs, bs_mk]
      simp only [List.length_cons, List.length_nil, Nat.zero_add, Nat.sub_self, List.drop_zero]
      by_cases hw0 : w = []
      · rw [if_pos hw0, hw0]
        have := ih k (i + 1) out [] (by omega) (by omega) (by simp) (by omega)
        rw [this]
        simp
      · rw [if_neg hw0, if_pos (by omega)]
        have := ih k (i + 1) (out ++ [mk w]) [] (by omega) (by omega) (by simp) (by simp; omega)
        rw [show (⟨#[]⟩ : ByteArray) = mk [] from rfl, this]
        simp [hw0]
    · have hne : (((bs s)[i].toNat : Int) != 32) = true := by
        rw [bne_iff_ne]
        intro h
        exact h32 (UInt8.toNat_inj.mp (by show _ = 32; omega))
      have hx : s.extract (i : Int).toNat ((i + 1 : Nat) : Int).toNat = mk [(bs s)[i]] := by
        rw [Int.toNat_natCast, Int.toNat_natCast, extract_mk, hd, show i + 1 - i = 1 by omega]
        rfl
      rw [hne, if_pos rfl, if_pos (by omega), if_pos (by omega), if_pos (by omega), hx, if_pos (by rw [mk_size, mk_size]; simp; omega), decide_eq_false h32, if_neg (by decide)]
      have happ : mk w ++ mk [(bs s)[i]] = mk (w ++ [(bs s)[i]]) := by
        apply bs_inj
        rw [bs_mk]
        unfold bs
        rw [ByteArray.data_append, Array.toList_append]
        simp [mk]
      rw [happ]
      exact ih k (i + 1) out (w ++ [(bs s)[i]]) (by omega) (by omega) (by simp; omega) (by omega)
def wordsOf (s : ByteArray) : List ByteArray := ((pcsG [32] [] (bs s)).filter (fun x => decide (x ≠ []))).map mk
theorem spec_l6Words_eq (s : ByteArray) (hs : s.size ≤ 1000) (k : Nat) (hk : 2004 ≤ k) : spec_l6Words.f k s = some (wordsOf s) := by
  have := spec_l6Words_l0 s hs s.size k 0 [] [] (by omega) (by omega) (by simp) (by simp)
  unfold spec_l6Words.f wordsOf
  rw [List.drop_zero] at this
  rw [show (⟨#[]⟩ : ByteArray) = mk [] from rfl]
  simpa using this
theorem spec_l6Alt_l0 (s : ByteArray) (hs : s.size ≤ 1000) : ∀ (n k fr i : Nat) (out : List ByteArray), n + 2 ≤ k → s.size ≤ i + n → fr ≤ i → i ≤ s.size → out.length ≤ i →
    spec_l6Alternatives.l0 k s out (fr : Int) (i : Int) = some (out ++ (pcsG [124, 124] (((bs s).drop fr).take (i - fr)) ((bs s).drop i)).map mk) := by
  intro n
  induction n with
  | zero =>
    intro k fr i out hk hi hf hle ho
    obtain ⟨k, rfl⟩ : ∃ k', k = k' + 1 := ⟨k - 1, by omega⟩
    have hw1 : wrap64 ((i : Int) + 1) = (i : Int) + 1 := wrap64_id (by omega) (by omega)
    rw [List.drop_eq_nil_of_le (i := i) (by rw [bs_length]; omega), pcsG, spec_l6Alternatives.l0, hw1, if_neg (by omega), if_pos (by omega), if_pos (by omega), if_pos (by omega), Int.toNat_natCast, extract_mk, show s.size = i by omega]
    rfl
  | succ n ih =>
    intro k fr i out hk hi hf hle ho
    obtain ⟨k, rfl⟩ : ∃ k', k = k' + 1 := ⟨k - 1, by omega⟩
    have hw1 : wrap64 ((i : Int) + 1) = ((i + 1 : Nat) : Int) := by rw [wrap64_id (by omega) (by omega)]; omega
    have hw2 : wrap64 ((i : Int) + 2) = ((i + 2 : Nat) : Int) := by rw [wrap64_id (by omega) (by omega)]; omega
    have hw3 : wrap64 (((i + 1 : Nat) : Int) + 1) = ((i + 2 : Nat) : Int) := by rw [wrap64_id (by omega) (by omega)]; omega
    rw [spec_l6Alternatives.l0, hw1, hw2, hw3]
    have hlen := bs_length s
    by_cases hend : i + 1 < s.size
    · have hil : i < (bs s).length := by omega
      have hil2 : i + 1 < (bs s).length := by omega
      have hd := List.drop_eq_getElem_cons hil
      have hd2 := List.drop_eq_getElem_cons hil2
      have hx : (s.extract (i : Int).toNat ((i + 2 : Nat) : Int).toNat).toList = [(bs s)[i], (bs s)[i + 1]] := by
        rw [Int.toNat_natCast, Int.toNat_natCast, toList_bs, bs_extract, hd, hd2, show i + 2 - i = 2 by omega]
        rfl
      rw [if_pos (by omega), if_pos (by omega), if_pos (by omega), if_pos (by omega), hx]
      rw [hd, pcsG, ← hd]
      have hpre : List.isPrefixOf [124, 124] ((bs s).drop i) = decide ([(bs s)[i], (bs s)[i + 1]] = [124, 124]) := by
        rw [hd, hd2]
        by_cases h : (bs s)[i] = 124
        · by_cases h2 : (bs s)[i + 1] = 124
          · simp [List.isPrefixOf, h, h2]
          · have : ((124 : UInt8) == (bs s)[i + 1]) = false := by simpa using fun e => h2 e.symm
            simp [List.isPrefixOf, h, this, h2]
        · have : ((124 : UInt8) == (bs s)[i]) = false := by simpa using fun e => h e.symm
          simp [List.isPrefixOf, this, h]
      rw [hpre]
      by_cases hc : [(bs s)[i], (bs s)[i + 1]] = [124, 124]
      · rw [if_pos hc, decide_eq_true hc, if_pos rfl, if_pos (by omega), if_pos (by omega), if_pos (by omega), if_pos (by omega), Int.toNat_natCast, Int.toNat_natCast, extract_mk]
        have := ih k (i + 2) (i + 2) (out ++ [mk (((bs s).drop fr).take (i - fr))]) (by omega) (by omega) (Nat.le_refl _) (by omega) (by simp; omega)
        rw [this]
        simp only [Nat.sub_self, List.take_zero, List.append_assoc, List.singleton_append, List.map_cons, List.length_cons, List.length_nil, Nat.zero_add]
        rw [List.drop_drop, show i + 1 + (1 + 1 - 1) = i + 2 by omega]
      · rw [if_neg hc, decide_eq_false hc, if_neg (by decide)]
        have := ih k fr (i + 1) out (by omega) (by omega) (by omega) (by omega) (by omega)
        rw [this, take_more (bs s) fr i hf hil]
    · rw [if_neg (by omega), if_pos (by omega), if_pos (by omega), if_pos (by omega), Int.toNat_natCast, extract_mk]
      by_cases hi2 : i = s.size
      · rw [List.drop_eq_nil_of_le (i := i) (by omega), pcsG, hi2]
        rfl
      · have hil : i < (bs s).length := by omega
        have hd := List.drop_eq_getElem_cons hil
        rw [List.drop_eq_nil_of_le (i := i + 1) (by omega)] at hd
        have hpre : List.isPrefixOf [124, 124] [(bs s)[i]] = false := by simp [List.isPrefixOf]
        rw [hd, pcsG, if_neg (by rw [hpre]; decide), pcsG, show s.size - fr = i + 1 - fr by omega, take_more (bs s) fr i hf hil]
        rfl
def altsOf (s : ByteArray) : List ByteArray := (pcsG [124, 124] [] (bs s)).map mk
theorem spec_l6Alt_eq (s : ByteArray) (hs : s.size ≤ 1000) (k : Nat) (hk : 1002 ≤ k) : spec_l6Alternatives.f k s = some (altsOf s) := by
  have := spec_l6Alt_l0 s hs s.size k 0 0 [] (by omega) (by omega) (Nat.le_refl _) (by omega) (by simp)
  unfold spec_l6Alternatives.f altsOf
  rw [List.drop_zero] at this
  simpa using this
end Go.Proofs.YthfohhpjanoimaaDoor.P
end

section
set_option linter.unusedVariables false
set_option linter.unusedSimpArgs false
namespace Go.Proofs.YthfohhpjanoimaaDoor.P
open Go.RowKit Go.Proofs.YthfohhpjanoimaaDoorW.PrintWords Go.Proofs.YthfohhpjanoimaaDoorW.PrintLast Go.Proofs.YthfohhpjanoimaaDoorM
def opsI : List ByteArray := [(⟨#[42]⟩ : ByteArray), (⟨#[33, 61]⟩ : ByteArray), (⟨#[62, 61]⟩ : ByteArray), (⟨#[60, 61]⟩ : ByteArray), (⟨#[61]⟩ : ByteArray), (⟨#[62]⟩ : ByteArray), (⟨#[60]⟩ : ByteArray), (⟨#[94]⟩ : ByteArray), (⟨#[126]⟩ : ByteArray)]
def opsS : List ByteArray := [(⟨#[62, 61]⟩ : ByteArray), (⟨#[60, 61]⟩ : ByteArray), (⟨#[33, 61]⟩ : ByteArray), (⟨#[61]⟩ : ByteArray), (⟨#[62]⟩ : ByteArray), (⟨#[60]⟩ : ByteArray), (⟨#[94]⟩ : ByteArray), (⟨#[126]⟩ : ByteArray)]
def isOp (w o : ByteArray) : Bool := (bs o).isPrefixOf (bs w)
theorem isOp_le {w o : ByteArray} (h : isOp w o = true) : o.size ≤ w.size := by
  unfold isOp at h
  rw [List.isPrefixOf_iff_prefix] at h
  have := h.length_le
  rwa [bs_length, bs_length] at this
theorem beq_prefix (w o : ByteArray) : ((w.extract 0 o.size).toList == o.toList) = isOp w o := by
  rw [toList_bs, toList_bs, bs_upto]
  unfold isOp
  rw [Bool.eq_iff_iff, beq_iff_eq, List.isPrefixOf_iff_prefix, List.prefix_iff_eq_take, bs_length]
  exact eq_comm
theorem HasPrefix_isOp (s q : ByteArray) : strings_HasPrefix.f s q = some (isOp s q) := by
  unfold strings_HasPrefix.f stringslite_HasPrefix.f
  by_cases h : q.size ≤ s.size
  · rw [if_pos (by omega), if_pos (by omega), if_pos (by omega), Option.bind_some, beq_prefix]
  · rw [if_neg (by omega), Option.bind_some]
    cases hp : isOp s q with
    | false => rfl
    | true => exact absurd (isOp_le hp) h
theorem impl_VersionOk_eq (s : ByteArray) (k : Nat) (hk : 2000 ≤ k) : impl_VersionOk.f k s = some (verOk s) := by
  unfold impl_VersionOk.f
  rw [impl_parts_eq s k hk, Option.bind_some]
  cases verOk s <;> rfl
theorem verOk_digit {s : ByteArray} (h : verOk s = true) : ∃ c r, bs s = c :: r ∧ isDb c = true := by
  unfold verOk at h
  simp only [Bool.and_eq_true, decide_eq_true_eq] at h
  obtain ⟨h1, _, h3, _⟩ := h
  have hl : 0 < (bs s).length := by rw [bs_length]; omega
  refine ⟨(bs s)[0], (bs s).drop 1, by simpa using List.drop_eq_getElem_cons hl, ?_⟩
  have := bt_nat s 0 (by omega)
  unfold isDb
  rw [← this]
  exact h3
def tO (w o : ByteArray) : Option S38 := if bs o = [42] then (if bs (w.extract o.size w.size) = [] then some ⟨o, w.extract o.size w.size⟩ else none) else if verOk (w.extract o.size w.size) = true then some ⟨o, w.extract o.size w.size⟩ else none
def tI (w : ByteArray) : Option S38 := match opsI.find? (isOp w) with
  | none => none
  | some o => tO w o
def tS (w : ByteArray) : Option S38 := if bs w = [42] then some ⟨⟨#[42]⟩, ⟨#[]⟩⟩ else match opsS.find? (fun o => decide (o.size < w.size) && (isOp w o && verOk (w.extract o.size w.size))) with
  | none => none
  | some o => some ⟨o, w.extract o.size w.size⟩
theorem rest_mk (l : List UInt8) (n : Nat) : (mk l).extract n (mk l).size = mk (l.drop n) := by
  rw [extract_mk, bs_mk, mk_size, List.take_of_length_le (by simp)]
theorem verOk_no (c : UInt8) (r : List UInt8) (h : isDb c = false) : verOk (mk (c :: r)) = false := by
  cases hv : verOk (mk (c :: r)) with
  | false => rfl
  | true =>
    obtain ⟨c', r', h1, h2⟩ := verOk_digit hv
    rw [bs_mk] at h1
    injection h1 with h1 _
    subst h1
    rw [h] at h2; cases h2
theorem verOk_none : verOk (mk []) = false := by
  cases hv : verOk (mk []) with
  | false => rfl
  | true =>
    obtain ⟨c', r', h1, h2⟩ := verOk_digit hv
    rw [bs_mk] at h1; cases h1
def opLI : List (List UInt8) := [[42], [33, 61], [62, 61], [60, 61], [61], [62], [60], [94], [126]]
def opLS : List (List UInt8) := [[62, 61], [60, 61], [33, 61], [61], [62], [60], [94], [126]]
def vL (l : List UInt8) : Bool := verOk (mk l)
def tIL (l : List UInt8) : Option (List UInt8 × List UInt8) := match opLI.find? (fun o => o.isPrefixOf l) with
  | none => none
  | some o => if o = [42] then (if l.drop o.length = [] then some (o, l.drop o.length) else none) else if vL (l.drop o.length) = true then some (o, l.drop o.length) else none
def tSL (l : List UInt8) : Option (List UInt8 × List UInt8) := if l = [42] then some ([42], []) else match opLS.find? (fun o => decide (o.length < l.length) && (o.isPrefixOf l && vL (l.drop o.length))) with
  | none => none
  | some o => some (o, l.drop o.length)
def mkT (p : List UInt8 × List UInt8) : S38 := ⟨mk p.1, mk p.2⟩
theorem tI_mk (l : List UInt8) : tI (mk l) = (tIL l).map mkT := by
  unfold tI tIL
  have h1 : opsI = opLI.map mk := rfl
  have h2 : (isOp (mk l)) ∘ mk = fun o => o.isPrefixOf l := by funext o; simp [isOp, bs_mk]
  rw [h1, List.find?_map, h2]
  cases opLI.find? (fun o => o.isPrefixOf l) with
  | none => rfl
  | some o =>
    simp only [Option.map_some]
    unfold tO vL
    rw [mk_size o, rest_mk, bs_mk, bs_mk]
    split
    · split <;> rfl
    · split <;> rfl
theorem tS_mk (l : List UInt8) : tS (mk l) = (tSL l).map mkT := by
  unfold tS tSL
  have h1 : opsS = opLS.map mk := rfl
  have h2 : (fun o => decide (o.size < (mk l).size) && (isOp (mk l) o && verOk ((mk l).extract o.size (mk l).size))) ∘ mk = fun o => decide (o.length < l.length) && (o.isPrefixOf l && vL (l.drop o.length)) := by
    funext o
    simp only [Function.comp_def, isOp, bs_mk, vL, mk_size o, rest_mk]
    rw [mk_size]
  rw [h1, List.find?_map, h2, bs_mk]
  split
  · rfl
  · cases opLS.find? (fun o => decide (o.length < l.length) && (o.isPrefixOf l && vL (l.drop o.length))) with
    | none => rfl
    | some o =>
      simp only [Option.map_some, mk_size o, rest_mk]
      rfl
theorem vL_nil : vL [] = false := verOk_none
theorem vL_no {c : UInt8} (r : List UInt8) (h : isDb c = false) : vL (c :: r) = false := verOk_no c r h
theorem vL_61 (r : List UInt8) : vL (61 :: r) = false := vL_no r (by decide)
theorem tIL_eq (l : List UInt8) : tIL l = tSL l := by
  unfold tIL tSL opLI opLS
  cases l with
  | nil => simp [List.find?, List.isPrefixOf]
  | cons a r =>
    by_cases h42 : a = 42
    · subst h42
      cases r with
      | nil => simp [List.find?, List.isPrefixOf]
      | cons b r => simp [List.find?, List.isPrefixOf]
    · by_cases h62 : a = 62
      · subst h62
        cases r with
        | nil => simp [List.find?, List.isPrefixOf, vL_nil]
        | cons b r =>
          by_cases hb : b = 61
          · subst hb
            cases r with
            | nil => simp [List.find?, List.isPrefixOf, vL_nil, vL_61]
            | cons c r => cases hv : vL (c :: r) <;> simp [List.find?, List.isPrefixOf, vL_61, hv]
          · have hb2 : ((61 : UInt8) == b) = false := by simpa using fun h => hb h.symm
            cases hv : vL (b :: r) <;> simp [List.find?, List.isPrefixOf, hv, hb2]
      · by_cases h60 : a = 60
        · subst h60
          cases r with
          | nil => simp [List.find?, List.isPrefixOf, vL_nil]
          | cons b r =>
            by_cases hb : b = 61
            · subst hb
              cases r with
              | nil => simp [List.find?, List.isPrefixOf, vL_nil, vL_61]
              | cons c r => cases hv : vL (c :: r) <;> simp [List.find?, List.isPrefixOf, vL_61, hv]
            · have hb2 : ((61 : UInt8) == b) = false := by simpa using fun h => hb h.symm
              cases hv : vL (b :: r) <;> simp [List.find?, List.isPrefixOf, hv, hb2]
        · by_cases h33 : a = 33
          · subst h33
            cases r with
            | nil => simp [List.find?, List.isPrefixOf, vL_nil]
            | cons b r =>
              by_cases hb : b = 61
              · subst hb
                cases r with
                | nil => simp [List.find?, List.isPrefixOf, vL_nil, vL_61]
                | cons c r => cases hv : vL (c :: r) <;> simp [List.find?, List.isPrefixOf, vL_61, hv]
              · have hb2 : ((61 : UInt8) == b) = false := by simpa using fun h => hb h.symm
                cases hv : vL (b :: r) <;> simp [List.find?, List.isPrefixOf, hv, hb2]
          · have g42 : ((42 : UInt8) == a) = false := by simpa using fun h => h42 h.symm
            have g62 : ((62 : UInt8) == a) = false := by simpa using fun h => h62 h.symm
            have g60 : ((60 : UInt8) == a) = false := by simpa using fun h => h60 h.symm
            have g33 : ((33 : UInt8) == a) = false := by simpa using fun h => h33 h.symm
            have one : ∀ r : List UInt8, r = [] ∨ ∃ b q, r = b :: q := fun r => by cases r with | nil => exact .inl rfl | cons b q => exact .inr ⟨b, q, rfl⟩
            by_cases h61 : a = 61
            · subst h61
              rcases one r with rfl | ⟨b, q, rfl⟩
              · simp [List.find?, List.isPrefixOf, vL_nil]
              · cases hv : vL (b :: q) <;> simp [List.find?, List.isPrefixOf, hv]
            · by_cases h94 : a = 94
              · subst h94
                rcases one r with rfl | ⟨b, q, rfl⟩
                · simp [List.find?, List.isPrefixOf, vL_nil]
                · cases hv : vL (b :: q) <;> simp [List.find?, List.isPrefixOf, hv]
              · by_cases h126 : a = 126
                · subst h126
                  rcases one r with rfl | ⟨b, q, rfl⟩
                  · simp [List.find?, List.isPrefixOf, vL_nil]
                  · cases hv : vL (b :: q) <;> simp [List.find?, List.isPrefixOf, hv]
                · have g61 : ((61 : UInt8) == a) = false := by simpa using fun h => h61 h.symm
                  have g94 : ((94 : UInt8) == a) = false := by simpa using fun h => h94 h.symm
                  have g126 : ((126 : UInt8) == a) = false := by simpa using fun h => h126 h.symm
                  simp [List.find?, List.isPrefixOf, g42, g62, g60, g33, g61, g94, g126, h42]
theorem tI_eq_tS (w : ByteArray) : tI w = tS w := by
  rw [← mk_bs w, tI_mk, tS_mk, tIL_eq]
theorem spec_l6Term_l0 (w : ByteArray) (hw : w.size ≤ 1000) (ops : List ByteArray) (hl : ops.length ≤ 100) : ∀ (n k i : Nat), n + 4200 ≤ k → i + n = ops.length →
    spec_l6Term.l0 k w ops (i : Int) = some (match (ops.drop i).find? (fun o => decide (o.size < w.size) && (isOp w o && verOk (w.extract o.size w.size))) with
      | none => (⟨#[]⟩, ⟨#[]⟩, false)
      | some o => (o, w.extract o.size w.size, true)) := by
  intro n
  induction n with
  | zero =>
    intro k i hk hi
    obtain ⟨k, rfl⟩ : ∃ k', k = k' + 1 := ⟨k - 1, by omega⟩
    rw [spec_l6Term.l0, if_neg (by omega), List.drop_eq_nil_of_le (by omega)]
    rfl
  | succ n ih =>
    intro k i hk hi
    obtain ⟨k, rfl⟩ : ∃ k', k = k' + 1 := ⟨k - 1, by omega⟩
    have hw1 : wrap64 ((i : Int) + 1) = ((i + 1 : Nat) : Int) := by rw [wrap64_id (by omega) (by omega)]; omega
    have hlt : i < ops.length := by omega
    have hr : rdOf ByteArray.empty ops (i : Int) = ops[i] := by simp [rdOf, List.getD_eq_getElem?_getD, List.getElem?_eq_getElem hlt]
    have ihn := ih k (i + 1) (by omega) (by omega)
    rw [spec_l6Term.l0, if_pos (by omega), if_pos (by omega), hr, hw1, List.drop_eq_getElem_cons hlt, List.find?_cons]
    by_cases h1 : ops[i].size < w.size
    · rw [if_pos (by omega), if_pos (by omega), if_pos (by omega), decide_eq_true h1, Bool.true_and]
      cases h2 : isOp w ops[i] with
      | false =>
        have : ¬ (w.extract 0 ops[i].size).toList = ops[i].toList := fun h => by rw [← beq_prefix, h] at h2; simp at h2
        rw [if_neg this, ihn, Bool.false_and]
      | true =>
        have : (w.extract 0 ops[i].size).toList = ops[i].toList := by rw [← beq_prefix] at h2; exact beq_iff_eq.1 h2
        rw [if_pos this, spec_VersionOk_eq _ k (by omega), Option.bind_some, Bool.true_and]
        cases h3 : verOk (w.extract ops[i].size w.size) with
        | false => rw [if_neg (by decide), ihn]
        | true => rw [if_pos rfl]
    · rw [if_neg (by omega), ihn, decide_eq_false h1, Bool.false_and]
theorem spec_l6Term_eq (w : ByteArray) (hw : w.size ≤ 1000) (k : Nat) (hk : 4400 ≤ k) : spec_l6Term.f k w = some (match tS w with
      | none => (⟨#[]⟩, ⟨#[]⟩, false)
      | some t => (t.f0, t.f1, true)) := by
  unfold spec_l6Term.f tS
  rw [toList_bs]
  by_cases h : bs w = [42]
  · rw [if_pos h, if_pos h]
  · rw [if_neg h, if_neg h]
    unfold spec_l6Ops.f
    have := spec_l6Term_l0 w hw opsS (by decide) 8 k 0 (by omega) (by decide)
    rw [Option.bind_some]
    rw [show ((0 : Nat) : Int) = 0 from rfl, List.drop_zero] at this
    refine this.trans ?_
    cases opsS.find? (fun o => decide (o.size < w.size) && (isOp w o && verOk (w.extract o.size w.size))) <;> rfl
end Go.Proofs.YthfohhpjanoimaaDoor.P
end

section
set_option linter.unusedVariables false
set_option linter.unusedSimpArgs false
namespace Go.Proofs.YthfohhpjanoimaaDoor.P
open Go.RowKit Go.Proofs.YthfohhpjanoimaaDoorW.PrintWords Go.Proofs.YthfohhpjanoimaaDoorW.PrintLast Go.Proofs.YthfohhpjanoimaaDoorM
def allT {α β : Type} (f : α → Option β) : List α → Option (List β)
  | [] => some []
  | a :: l => match f a with
    | none => none
    | some b => (allT f l).map (b :: ·)
theorem allT_length {α β : Type} (f : α → Option β) : ∀ (l : List α) (r : List β), allT f l = some r → r.length = l.length
  | [], r, h => by rw [allT] at h; obtain rfl := Option.some.inj h; rfl
  | a :: l, r, h => by
    rw [allT] at h
    split at h
    · cases h
    · obtain ⟨q, hq, rfl⟩ := Option.map_eq_some_iff.mp h
      simp [allT_length f l q hq]
def isStar (t : S38) : Bool := decide (bs t.f0 = [42])
def altOf (a : ByteArray) : Option (List S38) := match allT tI (wordsOf a) with
  | none => none
  | some ts => if ts = [] then none else if 1 < ts.length ∧ ts.any isStar = true then none else some ts
def rcOf (s : ByteArray) : Option (List (List S38)) := if s.size > 200 then none else allT altOf (altsOf s)
def rcAns (acc : List (List S38)) : Option (List (List S38)) → List (List S38) × Bool
  | none => ([], false)
  | some cs => (acc ++ cs, true)
def fil (l : List ByteArray) : List ByteArray := l.filter (fun x => decide (bs x ≠ []))
def piecesOf (a : ByteArray) : List ByteArray := (pcsG [32] [] (bs a)).map mk
theorem wordsOf_fil (a : ByteArray) : wordsOf a = fil (piecesOf a) := by
  unfold wordsOf fil piecesOf
  rw [List.filter_map]
  have : (fun x => decide (bs x ≠ [])) ∘ mk = fun x : List UInt8 => decide (x ≠ []) := by funext x; simp [bs_mk]
  rw [this]
theorem rd_at (l : List ByteArray) (i : Nat) (h : i < l.length) : rdOf ByteArray.empty l (i : Int) = l[i] := by simp [rdOf, List.getD_eq_getElem?_getD, List.getElem?_eq_getElem h]
theorem any_q (l : List S38) : impl_Term.f l = some (l.any isStar) := by
  unfold impl_Term.f
  congr 2
  funext e
  unfold impl_Term.q isStar
  rw [toList_bs]
  by_cases h : bs e.f0 = [42]
  · rw [h]; rfl
  · rw [decide_eq_false h]; simpa using h
def contI (k : Nat) (x4 : List (List S38)) (x17 : List ByteArray) (x18 x19 : Int) (l : List S38) : Option (List (List S38) × Bool) :=
  if (l.length : Int) = 0 then (some (([] : List (List (S38))), false)) else (if (l.length : Int) > 1 then ((impl_Term.f l).bind fun t211 => (if t211 = true then (some (([] : List (List (S38))), false)) else (if x4.length < 5864062014805 then (impl_ReadConstraint.l0 k (x4 ++ [l]) x17 x18 (wrap64 (x19 + 1))) else (none)))) else (if x4.length < 5864062014805 then (impl_ReadConstraint.l0 k (x4 ++ [l]) x17 x18 (wrap64 (x19 + 1))) else (none)))
theorem impl_RC_l2 (x4 : List (List S38)) (acc : List S38) (ha : acc.length ≤ 1000) (w : ByteArray) (hw : w.size ≤ 1000) (x17 : List ByteArray) (x18 x19 : Int) (xs : List ByteArray) (x26 : Int) (ops : List ByteArray) (hl : ops.length ≤ 100) (hne : ∀ o ∈ ops, bs o ≠ []) :
    ∀ (n q B : Nat) (r : List (List S38) × Bool), 3000 ≤ B → q + n = ops.length →
    (match (ops.drop q).find? (isOp w) with
      | none => r = ([], false)
      | some o => match tO w o with
        | none => r = ([], false)
        | some t => ∀ k, B ≤ k → impl_ReadConstraint.l1 k x4 (acc ++ [t]) x17 x18 x19 xs (xs.length : Int) (wrap64 (x26 + 1)) = some r) →
    ∀ k, B + n + 1 ≤ k → impl_ReadConstraint.l2 k x4 acc w x17 x18 x19 xs (xs.length : Int) x26 ops (ops.length : Int) (q : Int) (⟨#[]⟩ : ByteArray) (⟨#[]⟩ : ByteArray) = some r := by
  intro n
  induction n with
  | zero =>
    intro q B r hB hq h k hk
    obtain ⟨k, rfl⟩ : ∃ k', k = k' + 1 := ⟨k - 1, by omega⟩
    rw [List.drop_eq_nil_of_le (by omega)] at h
    have h : r = ([], false) := h
    rw [impl_ReadConstraint.l2, if_neg (by omega), if_pos (by rw [toList_bs]; rfl), h]
  | succ n ih =>
    intro q B r hB hq h k hk
    obtain ⟨k, rfl⟩ : ∃ k', k = k' + 1 := ⟨k - 1, by omega⟩
    have hw1 : wrap64 ((q : Int) + 1) = ((q + 1 : Nat) : Int) := by rw [wrap64_id (by omega) (by omega)]; omega
    have hlt : q < ops.length := by omega
    have hr := rd_at ops q hlt
    rw [List.drop_eq_getElem_cons hlt, List.find?_cons] at h
    rw [impl_ReadConstraint.l2, if_pos (by omega), if_pos (by omega), if_pos (by omega), hr, HasPrefix_isOp, Option.bind_some, hw1]
    cases hp : isOp w ops[q] with
    | false =>
      rw [hp] at h
      rw [if_neg (by decide)]
      exact ih (q + 1) B r hB (by omega) h k (by omega)
    | true =>
      have hle := isOp_le hp
      have hn0 : ¬ (ops[q].toList = []) := by rw [toList_bs]; exact hne _ (List.getElem_mem hlt)
      rw [hp] at h
      simp only [] at h
      unfold tO at h
      rw [if_pos rfl, if_pos (by omega), if_pos (by omega), if_neg hn0, toList_bs, toList_bs]
      by_cases hs : bs ops[q] = [42]
      · rw [if_pos hs] at h
        rw [if_pos hs]
        by_cases hv : bs (w.extract ops[q].size w.size) = []
        · rw [if_pos hv] at h
          rw [if_pos hv, if_pos (by omega)]
          exact h k (by omega)
        · rw [if_neg hv] at h
          rw [if_neg hv]
          have h : r = ([], false) := h
          rw [h]
      · rw [if_neg hs] at h
        rw [if_neg hs, impl_VersionOk_eq _ k (by omega), Option.bind_some]
        cases hv : verOk (w.extract ops[q].size w.size) with
        | true =>
          rw [if_pos hv] at h
          rw [if_pos rfl, if_pos (by omega)]
          exact h k (by omega)
        | false =>
          rw [if_neg (by rw [hv]; decide)] at h
          rw [if_neg (by decide)]
          have h : r = ([], false) := h
          rw [h]
theorem impl_RC_l1 (x4 : List (List S38)) (x17 : List ByteArray) (x18 x19 : Int) (xs : List ByteArray) (hl : xs.length ≤ 500) (hz : ∀ x ∈ xs, x.size ≤ 1000) :
    ∀ (n j B : Nat) (acc : List S38) (r : List (List S38) × Bool), 3000 ≤ B → j + n = xs.length → acc.length ≤ j →
    (match allT tI (fil (xs.drop j)) with
      | none => r = ([], false)
      | some ts => ∀ k, B ≤ k → contI k x4 x17 x18 x19 (acc ++ ts) = some r) →
    ∀ k, B + 12 * n + 1 ≤ k → impl_ReadConstraint.l1 k x4 acc x17 x18 x19 xs (xs.length : Int) (j : Int) = some r := by
  intro n
  induction n with
  | zero =>
    intro j B acc r hB hj ha h k hk
    obtain ⟨k, rfl⟩ : ∃ k', k = k' + 1 := ⟨k - 1, by omega⟩
    rw [List.drop_eq_nil_of_le (by omega)] at h
    have h : ∀ k, B ≤ k → contI k x4 x17 x18 x19 (acc ++ []) = some r := h
    rw [impl_ReadConstraint.l1, if_neg (by omega)]
    have := h k (by omega)
    rwa [List.append_nil] at this
  | succ n ih =>
    intro j B acc r hB hj ha h k hk
    obtain ⟨k, rfl⟩ : ∃ k', k = k' + 1 := ⟨k - 1, by omega⟩
    have hw1 : wrap64 ((j : Int) + 1) = ((j + 1 : Nat) : Int) := by rw [wrap64_id (by omega) (by omega)]; omega
    have hlt : j < xs.length := by omega
    have hr := rd_at xs j hlt
    rw [List.drop_eq_getElem_cons hlt] at h
    unfold fil at h
    rw [List.filter_cons] at h
    rw [impl_ReadConstraint.l1, if_pos (by omega), if_pos (by omega), if_pos (by omega), hr, hw1, toList_bs]
    by_cases h0 : bs xs[j] = []
    · rw [if_neg (by simpa using h0)] at h
      rw [if_pos h0]
      exact ih (j + 1) B acc r hB (by omega) (by omega) h k (by omega)
    · rw [if_pos (by simpa using h0), allT] at h
      rw [if_neg h0, Option.bind_some]
      have h2 := impl_RC_l2 x4 acc (by omega) xs[j] (hz _ (List.getElem_mem hlt)) x17 x18 x19 xs (j : Int) opsI (by decide) (by decide) 9 0 (B + 12 * n + 1) r (by omega) (by decide)
      refine h2 ?_ k (by omega)
      rw [List.drop_zero]
      have htI : tI xs[j] = match opsI.find? (isOp xs[j]) with
        | none => none
        | some o => tO xs[j] o := rfl
      cases hf : opsI.find? (isOp xs[j]) with
      | none =>
        rw [hf] at htI
        rw [htI] at h
        exact h
      | some o =>
        rw [hf] at htI
        simp only [] at htI ⊢
        rw [htI] at h
        cases ht : tO xs[j] o with
        | none => rw [ht] at h; exact h
        | some t =>
          rw [ht] at h
          simp only [] at h ⊢
          intro k' hk'
          rw [hw1]
          refine ih (j + 1) B (acc ++ [t]) r hB (by omega) (by rw [List.length_append, List.length_singleton]; omega) ?_ k' hk'
          unfold fil
          cases hr2 : allT tI ((xs.drop (j + 1)).filter (fun x => decide (bs x ≠ []))) with
          | none => rw [hr2] at h; exact h
          | some ts =>
            rw [hr2] at h
            simp only [Option.map_some] at h
            intro k2 hk2
            rw [List.append_assoc, List.singleton_append]
            exact h k2 hk2
theorem pieces_ok (a : ByteArray) (ha : a.size ≤ 200) : (piecesOf a).length ≤ 500 ∧ ∀ x ∈ piecesOf a, x.size ≤ 1000 := by
  unfold piecesOf
  constructor
  · rw [List.length_map]
    have := pcsG_length [32] _ (bs a) [] (Nat.le_refl _)
    rw [bs_length] at this
    omega
  · intro x hx
    obtain ⟨l, hl, rfl⟩ := List.mem_map.1 hx
    have := pcsG_sizes [32] _ (bs a) [] (Nat.le_refl _) l hl
    rw [bs_length, List.length_nil] at this
    rw [mk_size]
    omega
theorem impl_RC_l0 (cs : List ByteArray) (hl : cs.length ≤ 500) (hz : ∀ x ∈ cs, x.size ≤ 200) : ∀ (n i : Nat) (acc : List (List S38)), i + n = cs.length → acc.length ≤ i →
    ∀ k, 7000 * n + 3001 ≤ k → impl_ReadConstraint.l0 k acc cs (cs.length : Int) (i : Int) = some (rcAns acc (allT altOf (cs.drop i))) := by
  intro n
  induction n with
  | zero =>
    intro i acc hi ha k hk
    obtain ⟨k, rfl⟩ : ∃ k', k = k' + 1 := ⟨k - 1, by omega⟩
    rw [impl_ReadConstraint.l0, if_neg (by omega), List.drop_eq_nil_of_le (by omega)]
    simp [allT, rcAns]
  | succ n ih =>
    intro i acc hi ha k hk
    obtain ⟨k, rfl⟩ : ∃ k', k = k' + 1 := ⟨k - 1, by omega⟩
    have hw1 : wrap64 ((i : Int) + 1) = ((i + 1 : Nat) : Int) := by rw [wrap64_id (by omega) (by omega)]; omega
    have hlt : i < cs.length := by omega
    have hsz := hz _ (List.getElem_mem hlt)
    obtain ⟨hp1, hp2⟩ := pieces_ok cs[i] hsz
    rw [impl_ReadConstraint.l0, if_pos (by omega), if_pos (by omega), if_pos (by omega), rd_at cs i hlt, Split_eq _ _ (by omega) (by decide), Option.bind_some]
    change impl_ReadConstraint.l1 k acc [] cs (cs.length : Int) (i : Int) (piecesOf cs[i]) ((piecesOf cs[i]).length : Int) ((0 : Nat) : Int) = _
    refine impl_RC_l1 acc cs (cs.length : Int) (i : Int) (piecesOf cs[i]) hp1 hp2 (piecesOf cs[i]).length 0 (7000 * n + 3001) [] _ (by omega) (by omega) (by simp) ?_ k (by omega)
    rw [List.drop_zero, ← wordsOf_fil, List.drop_eq_getElem_cons hlt, allT]
    cases h1 : allT tI (wordsOf cs[i]) with
    | none =>
      have hal : altOf cs[i] = none := by unfold altOf; rw [h1]
      rw [hal]
      rfl
    | some ts =>
      simp only [List.nil_append]
      intro k2 hk2
      unfold contI
      rw [any_q, Option.bind_some, hw1]
      by_cases h2 : ts = []
      · have hal : altOf cs[i] = none := by unfold altOf; rw [h1]; exact if_pos h2
        rw [hal, if_pos (by rw [h2]; rfl)]
        rfl
      · have h3 : ts.length ≠ 0 := fun h => h2 (List.length_eq_zero_iff.1 h)
        have hgo : impl_ReadConstraint.l0 k2 (acc ++ [ts]) cs (cs.length : Int) ((i + 1 : Nat) : Int) = some (rcAns acc ((allT altOf (cs.drop (i + 1))).map (ts :: ·))) := by
          rw [ih (i + 1) (acc ++ [ts]) (by omega) (by simp; omega) k2 (by omega)]
          cases allT altOf (cs.drop (i + 1)) <;> simp [rcAns]
        rw [if_neg (show ¬ ((ts.length : Int) = 0) by omega)]
        by_cases h4 : 1 < ts.length
        · rw [if_pos (show (ts.length : Int) > 1 by omega)]
          cases h5 : ts.any isStar with
          | true =>
            have hal : altOf cs[i] = none := by unfold altOf; rw [h1]; exact (if_neg h2).trans (if_pos ⟨h4, h5⟩)
            rw [hal, if_pos rfl]
            rfl
          | false =>
            have hal : altOf cs[i] = some ts := by unfold altOf; rw [h1]; exact (if_neg h2).trans (if_neg (by rintro ⟨_, h⟩; rw [h5] at h; cases h))
            rw [if_neg (show ¬ (false = true) by decide), if_pos (show acc.length < 5864062014805 by omega)]
            rw [hal]
            exact hgo
        · have hal : altOf cs[i] = some ts := by unfold altOf; rw [h1]; exact (if_neg h2).trans (if_neg (by rintro ⟨h, _⟩; exact h4 h))
          rw [if_neg (show ¬ ((ts.length : Int) > 1) by omega), if_pos (show acc.length < 5864062014805 by omega)]
          rw [hal]
          exact hgo
theorem alts_ok (s : ByteArray) (hs : s.size ≤ 200) : (altsOf s).length ≤ 201 ∧ ∀ x ∈ altsOf s, x.size ≤ 200 := by
  unfold altsOf
  constructor
  · rw [List.length_map]
    have := pcsG_length [124, 124] _ (bs s) [] (Nat.le_refl _)
    rw [bs_length] at this
    omega
  · intro x hx
    obtain ⟨l, hl, rfl⟩ := List.mem_map.1 hx
    have := pcsG_sizes [124, 124] _ (bs s) [] (Nat.le_refl _) l hl
    rw [bs_length, List.length_nil] at this
    rw [mk_size]
    omega
theorem impl_ReadConstraint_eq (s : ByteArray) (k : Nat) (hk : 1500000 ≤ k) : impl_ReadConstraint.f k s = some (rcAns [] (rcOf s)) := by
  unfold impl_ReadConstraint.f rcOf
  by_cases h : s.size > 200
  · rw [if_pos (by omega), if_pos h]; rfl
  · obtain ⟨h1, h2⟩ := alts_ok s (by omega)
    rw [if_neg (by omega), if_neg h, Split_eq _ _ (by omega) (by decide), Option.bind_some]
    have := impl_RC_l0 (altsOf s) (by omega) h2 (altsOf s).length 0 [] (by omega) (by simp) k (by omega)
    rw [List.drop_zero] at this
    exact this
def contS (k : Nat) (x4 x5 : List (List S38)) (x6 : List ByteArray) (x7 : Int) (l : List S38) : Option (List (List S38) × Bool) :=
  if (l.length : Int) = 0 then (some (x4, false)) else (if x5.length < 5864062014805 then (spec_ReadConstraint.l0 k x4 (x5 ++ [l]) x6 (wrap64 (x7 + 1))) else (none))
theorem spec_RC_l1 (x4 x5 : List (List S38)) (x6 : List ByteArray) (x7 : Int) (ws : List ByteArray) (hl : ws.length ≤ 500) (hz : ∀ x ∈ ws, x.size ≤ 1000) :
    ∀ (n j B : Nat) (acc : List S38) (r : List (List S38) × Bool), 4400 ≤ B → j + n = ws.length → acc.length ≤ j →
    (match allT tI (ws.drop j) with
      | none => r = (x4, false)
      | some ts => if 1 < ws.length ∧ ts.any isStar = true then r = (x4, false) else ∀ k, B ≤ k → contS k x4 x5 x6 x7 (acc ++ ts) = some r) →
    ∀ k, B + n + 1 ≤ k → spec_ReadConstraint.l1 k x4 x5 x6 x7 ws acc (j : Int) = some r := by
  intro n
  induction n with
  | zero =>
    intro j B acc r hB hj ha h k hk
    obtain ⟨k, rfl⟩ : ∃ k', k = k' + 1 := ⟨k - 1, by omega⟩
    rw [List.drop_eq_nil_of_le (by omega), allT] at h
    simp only [List.any_nil, Bool.false_eq_true, and_false, if_false, List.append_nil] at h
    rw [spec_ReadConstraint.l1, if_neg (by omega)]
    exact h k (by omega)
  | succ n ih =>
    intro j B acc r hB hj ha h k hk
    obtain ⟨k, rfl⟩ : ∃ k', k = k' + 1 := ⟨k - 1, by omega⟩
    have hw1 : wrap64 ((j : Int) + 1) = ((j + 1 : Nat) : Int) := by rw [wrap64_id (by omega) (by omega)]; omega
    have hlt : j < ws.length := by omega
    have hr := rd_at ws j hlt
    rw [List.drop_eq_getElem_cons hlt, allT, tI_eq_tS] at h
    rw [spec_ReadConstraint.l1, if_pos (by omega), if_pos (by omega), hr, hw1, spec_l6Term_eq _ (hz _ (List.getElem_mem hlt)) k (by omega), Option.bind_some]
    cases ht : tS ws[j] with
    | none =>
      rw [ht] at h
      have h : r = (x4, false) := h
      simp only [Bool.false_eq_true, if_false]
      rw [h]
    | some t =>
      rw [ht] at h
      simp only [if_true] at h ⊢
      rw [toList_bs]
      have hnext : (¬ (1 < ws.length ∧ isStar t = true)) → spec_ReadConstraint.l1 k x4 x5 x6 x7 ws (acc ++ [t]) ((j + 1 : Nat) : Int) = some r := fun hns => by
        refine ih (j + 1) B (acc ++ [t]) r hB (by omega) (by rw [List.length_append, List.length_singleton]; omega) ?_ k (by omega)
        cases hr2 : allT tI (ws.drop (j + 1)) with
        | none => rw [hr2] at h; exact h
        | some ts =>
          rw [hr2] at h
          simp only [Option.map_some] at h
          simp only []
          by_cases hs2 : 1 < ws.length ∧ ts.any isStar = true
          · rw [if_pos ⟨hs2.1, by rw [List.any_cons, hs2.2, Bool.or_true]⟩] at h
            rw [if_pos hs2]
            exact h
          · rw [if_neg (by
              rintro ⟨g1, g2⟩
              rw [List.any_cons, Bool.or_eq_true] at g2
              rcases g2 with g2 | g2
              · exact hns ⟨g1, g2⟩
              · exact hs2 ⟨g1, g2⟩)] at h
            rw [if_neg hs2]
            intro k2 hk2
            rw [List.append_assoc, List.singleton_append]
            exact h k2 hk2
      by_cases hst : bs t.f0 = [42]
      · have hst2 : isStar t = true := decide_eq_true hst
        rw [if_pos hst]
        by_cases hgt : 1 < ws.length
        · rw [if_pos (by omega)]
          cases hr2 : allT tI (ws.drop (j + 1)) with
          | none => rw [hr2] at h; have h : r = (x4, false) := h; rw [h]
          | some ts =>
            rw [hr2] at h
            simp only [Option.map_some] at h
            rw [if_pos ⟨hgt, by rw [List.any_cons, hst2, Bool.true_or]⟩] at h
            rw [h]
        · rw [if_neg (by omega), if_pos (by omega)]
          exact hnext (fun g => hgt g.1)
      · rw [if_neg hst, if_pos (by omega)]
        exact hnext (fun g => hst (of_decide_eq_true g.2))
theorem words_ok (a : ByteArray) (ha : a.size ≤ 200) : (wordsOf a).length ≤ 500 ∧ ∀ x ∈ wordsOf a, x.size ≤ 1000 := by
  obtain ⟨h1, h2⟩ := pieces_ok a ha
  rw [wordsOf_fil]
  unfold fil
  exact ⟨Nat.le_trans (List.length_filter_le _ _) h1, fun x hx => h2 x (List.mem_filter.1 hx).1⟩
theorem spec_RC_l0 (cs : List ByteArray) (hl : cs.length ≤ 500) (hz : ∀ x ∈ cs, x.size ≤ 200) : ∀ (n i : Nat) (acc : List (List S38)), i + n = cs.length → acc.length ≤ i →
    ∀ k, 7000 * n + 4401 ≤ k → spec_ReadConstraint.l0 k [] acc cs (i : Int) = some (rcAns acc (allT altOf (cs.drop i))) := by
  intro n
  induction n with
  | zero =>
    intro i acc hi ha k hk
    obtain ⟨k, rfl⟩ : ∃ k', k = k' + 1 := ⟨k - 1, by omega⟩
    rw [spec_ReadConstraint.l0, if_neg (by omega), List.drop_eq_nil_of_le (by omega)]
    simp [allT, rcAns]
  | succ n ih =>
    intro i acc hi ha k hk
    obtain ⟨k, rfl⟩ : ∃ k', k = k' + 1 := ⟨k - 1, by omega⟩
    have hw1 : wrap64 ((i : Int) + 1) = ((i + 1 : Nat) : Int) := by rw [wrap64_id (by omega) (by omega)]; omega
    have hlt : i < cs.length := by omega
    have hsz := hz _ (List.getElem_mem hlt)
    obtain ⟨hp1, hp2⟩ := words_ok cs[i] hsz
    rw [spec_ReadConstraint.l0, if_pos (by omega), if_pos (by omega), rd_at cs i hlt, spec_l6Words_eq _ (by omega) k (by omega), Option.bind_some]
    change spec_ReadConstraint.l1 k [] acc cs (i : Int) (wordsOf cs[i]) [] ((0 : Nat) : Int) = _
    refine spec_RC_l1 [] acc cs (i : Int) (wordsOf cs[i]) hp1 hp2 (wordsOf cs[i]).length 0 (7000 * n + 4401) [] _ (by omega) (by omega) (by simp) ?_ k (by omega)
    rw [List.drop_zero, List.drop_eq_getElem_cons hlt, allT]
    cases h1 : allT tI (wordsOf cs[i]) with
    | none =>
      have hal : altOf cs[i] = none := by unfold altOf; rw [h1]
      rw [hal]
      rfl
    | some ts =>
      have htl := allT_length tI _ _ h1
      simp only [List.nil_append]
      by_cases h2 : ts = []
      · have hal : altOf cs[i] = none := by unfold altOf; rw [h1]; exact if_pos h2
        rw [hal, if_neg (by rintro ⟨_, h⟩; rw [h2] at h; cases h)]
        intro k2 hk2
        unfold contS
        rw [if_pos (by rw [h2]; rfl)]
        rfl
      · have h3 : ts.length ≠ 0 := fun h => h2 (List.length_eq_zero_iff.1 h)
        rw [← htl]
        by_cases h4 : 1 < ts.length ∧ ts.any isStar = true
        · have hal : altOf cs[i] = none := by unfold altOf; rw [h1]; exact (if_neg h2).trans (if_pos h4)
          rw [hal, if_pos h4]
          rfl
        · have hal : altOf cs[i] = some ts := by unfold altOf; rw [h1]; exact (if_neg h2).trans (if_neg h4)
          rw [hal, if_neg h4]
          intro k2 hk2
          unfold contS
          rw [if_neg (show ¬ ((ts.length : Int) = 0) by omega), if_pos (show acc.length < 5864062014805 by omega), hw1, ih (i + 1) (acc ++ [ts]) (by omega) (by simp; omega) k2 (by omega)]
          simp only []
          cases allT altOf (cs.drop (i + 1)) <;> simp [rcAns]
theorem spec_ReadConstraint_eq (s : ByteArray) (k : Nat) (hk : 1500000 ≤ k) : spec_ReadConstraint.f k s = some (rcAns [] (rcOf s)) := by
  unfold spec_ReadConstraint.f rcOf
  rw [Option.bind_some]
  by_cases h : s.size > 200
  · rw [if_pos (by omega), if_pos h]; rfl
  · obtain ⟨h1, h2⟩ := alts_ok s (by omega)
    rw [if_neg (by omega), if_neg h, spec_l6Alt_eq _ (by omega) k (by omega), Option.bind_some]
    have := spec_RC_l0 (altsOf s) (by omega) h2 (altsOf s).length 0 [] (by omega) (by simp) k (by omega)
    rw [List.drop_zero] at this
    exact this
end Go.Proofs.YthfohhpjanoimaaDoor.P
end

section
set_option linter.unusedVariables false
set_option linter.unusedSimpArgs false
namespace Go.Proofs.YthfohhpjanoimaaDoor.P
open Go.RowKit Go.Proofs.YthfohhpjanoimaaDoorW.PrintWords Go.Proofs.YthfohhpjanoimaaDoorW.PrintLast Go.Proofs.YthfohhpjanoimaaDoorM
def opLC : List (List UInt8) := [[42], [61], [33, 61], [62], [62, 61], [60], [60, 61], [94], [126]]
theorem bs_app (a b : ByteArray) : bs (a ++ b) = bs a ++ bs b := by simp [bs]
theorem okL_to (o v : List UInt8) (h : tIL (o ++ v) = some (o, v)) : o ∈ opLC ∧ (o = [42] ↔ v = []) ∧ (o = [42] ∨ vL v = true) := by
  unfold tIL at h
  cases hf : opLI.find? (fun o' => o'.isPrefixOf (o ++ v)) with
  | none => rw [hf] at h; cases h
  | some p =>
    rw [hf] at h
    have hm := List.mem_of_find?_eq_some hf
    have hc : p ∈ opLC := (by decide : ∀ q ∈ opLI, q ∈ opLC) p hm
    simp only [] at h
    by_cases hp : p = [42]
    · rw [if_pos hp] at h
      by_cases hd : (o ++ v).drop p.length = []
      · rw [if_pos hd] at h
        injection h with h
        injection h with h1 h2
        have hv : v = [] := h2.symm.trans hd
        have ho : o = [42] := h1.symm.trans hp
        exact ⟨by rw [← h1]; exact hc, ⟨fun _ => hv, fun _ => ho⟩, Or.inl ho⟩
      · rw [if_neg hd] at h; cases h
    · rw [if_neg hp] at h
      by_cases hd : vL ((o ++ v).drop p.length) = true
      · rw [if_pos hd] at h
        injection h with h
        injection h with h1 h2
        rw [h2] at hd
        rw [h1] at hp hc
        exact ⟨hc, ⟨fun e => absurd e hp, fun e => by rw [e, vL_nil] at hd; cases hd⟩, Or.inr hd⟩
      · rw [if_neg hd] at h; cases h
theorem okL_of (o v : List UInt8) (hm : o ∈ opLC) (hi : o = [42] ↔ v = []) (hv : o = [42] ∨ vL v = true) : tIL (o ++ v) = some (o, v) := by
  by_cases ho : o = [42]
  · have h2 := hi.1 ho
    subst h2
    subst ho
    rfl
  · have hv2 : verOk (mk v) = true := hv.resolve_left ho
    obtain ⟨d, r, e1, e2⟩ := verOk_digit hv2
    rw [bs_mk] at e1
    subst e1
    have hvL : vL (d :: r) = true := hv2
    have hr := digit_rng e2
    have hd61 : (61 == d) = false := by
      cases hx : (61 == d) with
      | false => rfl
      | true =>
        have e3 : 61 = d := beq_iff_eq.1 hx
        rw [← e3] at hr
        exact absurd hr.2 (by decide)
    unfold opLC at hm
    simp only [List.mem_cons, List.not_mem_nil, or_false] at hm
    rcases hm with rfl | rfl | rfl | rfl | rfl | rfl | rfl | rfl | rfl
    · exact absurd rfl ho
    all_goals
      unfold tIL opLI
      simp [List.find?_cons, List.isPrefixOf, hd61, hvL]
def okB (t : S38) : Bool := decide (bs t.f0 ∈ opLC) && ((decide (bs t.f0 = [42]) == decide (bs t.f1 = [])) && (decide (bs t.f0 = [42]) || verOk t.f1))
theorem okB_iff (t : S38) : okB t = true ↔ (bs t.f0 ∈ opLC ∧ (bs t.f0 = [42] ↔ bs t.f1 = []) ∧ (bs t.f0 = [42] ∨ vL (bs t.f1) = true)) := by
  unfold okB vL
  rw [mk_bs]
  by_cases h1 : bs t.f0 = [42] <;> by_cases h2 : bs t.f1 = [] <;> simp [h1, h2]
def txt (t : S38) : List UInt8 := bs t.f0 ++ bs t.f1
theorem txt_app (t : S38) : t.f0 ++ t.f1 = mk (txt t) := by
  unfold txt
  rw [← bs_app, mk_bs]
theorem okT_iff (t : S38) : tI (t.f0 ++ t.f1) = some t ↔ okB t = true := by
  rw [okB_iff, txt_app, tI_mk]
  have key : (tIL (txt t)).map mkT = some t ↔ tIL (txt t) = some (bs t.f0, bs t.f1) := by
    constructor
    · intro h
      obtain ⟨p, hp, he⟩ := Option.map_eq_some_iff.1 h
      rw [hp, ← he]
      unfold mkT
      simp only [bs_mk]
    · intro h
      rw [h]
      show some (mkT (bs t.f0, bs t.f1)) = some t
      unfold mkT
      simp only [mk_bs]
  rw [key]
  exact ⟨okL_to _ _, fun h => okL_of _ _ h.1 h.2.1 h.2.2⟩
theorem tok_clean : ∀ (n : Nat) (l : List UInt8), (tok n l).isSome = true → ∀ c ∈ l, isDb c = true ∨ isLb c = true ∨ c = 46 ∨ c = 45
  | _, [], _, c, hc => by cases hc
  | 0, x :: r, h, c, hc => by rw [tok] at h; cases h
  | n + 1, x :: r, h, c, hc => by
    rw [tok] at h
    by_cases h1 : isDb x = true
    · rw [if_pos h1] at h
      by_cases h2 : ((x :: r).takeWhile isDb).length > 15
      · rw [if_pos h2] at h; cases h
      · rw [if_neg h2, Option.isSome_map] at h
        rw [← List.takeWhile_append_dropWhile (p := isDb) (l := x :: r)] at hc
        rcases List.mem_append.1 hc with h3 | h3
        · exact Or.inl (mem_tw isDb _ _ h3)
        · exact tok_clean n _ h c h3
    · rw [if_neg h1] at h
      by_cases h2 : isLb x = true
      · rw [if_pos h2, Option.isSome_map] at h
        rw [← List.takeWhile_append_dropWhile (p := isLb) (l := x :: r)] at hc
        rcases List.mem_append.1 hc with h3 | h3
        · exact Or.inr (Or.inl (mem_tw isLb _ _ h3))
        · exact tok_clean n _ h c h3
      · rw [if_neg h2] at h
        by_cases h3 : x = 46 ∨ x = 45
        · rw [if_pos h3] at h
          rcases List.mem_cons.1 hc with h4 | h4
          · rw [h4]; exact Or.inr (Or.inr h3)
          · exact tok_clean n _ h c h4
        · rw [if_neg h3] at h; cases h
theorem txt_free (t : S38) (h : okB t = true) : 124 ∉ txt t := by
  obtain ⟨h1, h2, h3⟩ := (okB_iff t).1 h
  unfold txt
  intro hm
  rcases List.mem_append.1 hm with h4 | h4
  · exact (by decide : ∀ o ∈ opLC, (124 : UInt8) ∉ o) _ h1 h4
  · rcases h3 with h3 | h3
    · rw [h2.1 h3] at h4; cases h4
    · unfold vL at h3
      rw [mk_bs] at h3
      unfold verOk at h3
      simp only [Bool.and_eq_true] at h3
      rcases tok_clean _ _ h3.2.2.2 _ h4 with h5 | h5 | h5 | h5
      · exact absurd h5 (by decide)
      · exact absurd h5 (by decide)
      · exact absurd h5 (by decide)
      · exact absurd h5 (by decide)
def altTxt : Bool → List S38 → List UInt8
  | _, [] => []
  | fst, t :: l => (if fst = true then [] else [32]) ++ (txt t ++ altTxt false l)
def allTxt : Bool → List (List S38) → List UInt8
  | _, [] => []
  | fst, a :: l => (if fst = true then [] else [32, 124, 124, 32]) ++ (altTxt true a ++ allTxt false l)
theorem altTxt_free : ∀ (a : List S38) (fst : Bool), (∀ t ∈ a, 124 ∉ txt t) → 124 ∉ altTxt fst a
  | [], _, _ => by simp [altTxt]
  | t :: l, fst, h => by
    rw [altTxt]
    intro hm
    rcases List.mem_append.1 hm with h1 | h1
    · cases fst
      · simp at h1
      · simp at h1
    · rcases List.mem_append.1 h1 with h2 | h2
      · exact h t List.mem_cons_self h2
      · exact altTxt_free l false (fun x hx => h x (List.mem_cons_of_mem _ hx)) h2
theorem pcs_step (b : UInt8) (hb : b ≠ 124) (cur l : List UInt8) : pcsG [124, 124] cur (b :: l) = pcsG [124, 124] (cur ++ [b]) l := by
  rw [pcsG, if_neg]
  intro h
  rw [List.isPrefixOf] at h
  simp only [Bool.and_eq_true, beq_iff_eq] at h
  exact hb h.1.symm
theorem pcs_free : ∀ (l cur rest : List UInt8), 124 ∉ l → pcsG [124, 124] cur (l ++ rest) = pcsG [124, 124] (cur ++ l) rest
  | [], cur, rest, _ => by simp
  | b :: l, cur, rest, h => by
    rw [List.cons_append, pcs_step b (fun e => h (by rw [e]; exact List.mem_cons_self)), pcs_free l _ rest (fun e => h (List.mem_cons_of_mem _ e))]
    simp
theorem pcs_end (cur : List UInt8) : pcsG [124, 124] cur [] = [cur] := by rw [pcsG]
theorem pcs_bar (cur rest : List UInt8) : pcsG [124, 124] cur (124 :: 124 :: rest) = cur :: pcsG [124, 124] [] rest := by
  rw [pcsG, if_pos (by rfl)]
  rfl
theorem blank_pcs : ∀ (l : List UInt8), (∀ c ∈ l, c = 32) → ∀ p ∈ pcsG [32] [] l, p = []
  | [], _, p, hp => by rw [pcsG] at hp; exact List.mem_singleton.1 hp
  | b :: l, h, p, hp => by
    have hb : b = 32 := h b List.mem_cons_self
    subst hb
    rw [pcsG, if_pos (by rw [List.isPrefixOf]; rfl)] at hp
    rcases List.mem_cons.1 hp with h1 | h1
    · exact h1
    · exact blank_pcs l (fun c hc => h c (List.mem_cons_of_mem _ hc)) p (by simpa using h1)
theorem altOf_blank (l : List UInt8) (h : ∀ c ∈ l, c = 32) : altOf (mk l) = none := by
  have hw : wordsOf (mk l) = [] := by
    unfold wordsOf
    rw [bs_mk, List.filter_eq_nil_iff.2 (fun p hp => by rw [blank_pcs l h p hp]; decide)]
    rfl
  unfold altOf
  rw [hw]
  rfl
theorem allT_cons_none {α β : Type} (f : α → Option β) (a : α) (l : List α) (h : allT f l = none) : allT f (a :: l) = none := by
  rw [allT, h]
  cases f a <;> rfl
theorem empty_none : ∀ (l : List (List S38)) (a : List S38) (cur : List UInt8), (∀ c ∈ cur, c = 32) → (∀ x ∈ a :: l, ∀ t ∈ x, 124 ∉ txt t) → [] ∈ a :: l →
    allT altOf ((pcsG [124, 124] cur (altTxt true a ++ allTxt false l)).map mk) = none
  | [], a, cur, hc, hf, he => by
    have ha : a = [] := (List.mem_singleton.1 he).symm
    subst ha
    rw [allTxt, altTxt, List.append_nil, pcs_end]
    show allT altOf [mk cur] = none
    rw [allT, altOf_blank cur hc]
  | b :: l, a, cur, hc, hf, he => by
    have h1 : altTxt true a ++ allTxt false (b :: l) = (altTxt true a ++ [32]) ++ (124 :: 124 :: ([32] ++ (altTxt true b ++ allTxt false l))) := by
      rw [allTxt, if_neg (by decide)]
      simp
    have hfr : 124 ∉ altTxt true a ++ [32] := by
      intro hm
      rcases List.mem_append.1 hm with h2 | h2
      · exact altTxt_free a true (hf a List.mem_cons_self) h2
      · exact absurd h2 (by decide)
    rw [h1, pcs_free _ _ _ hfr, pcs_bar, List.map_cons]
    by_cases ha : a = []
    · subst ha
      rw [allT, altOf_blank _ (by
        intro c h2
        rw [altTxt, List.nil_append] at h2
        rcases List.mem_append.1 h2 with h3 | h3
        · exact hc c h3
        · exact List.mem_singleton.1 h3)]
    · refine allT_cons_none _ _ _ ?_
      rw [List.singleton_append, pcs_step 32 (by decide)]
      refine empty_none l b _ (by intro c h2; exact List.mem_singleton.1 (by simpa using h2)) (fun x hx => hf x (List.mem_cons_of_mem _ hx)) ?_
      rcases List.mem_cons.1 he with h2 | h2
      · exact absurd h2.symm ha
      · exact h2
def ans (c : List (List S38)) : ByteArray := if (c.all (fun a => a.all okB) && (rcOf (mk (allTxt true c))).isSome) = true then mk (allTxt true c) else mk []
theorem rcOf_size (l : List UInt8) (h : 200 < l.length) : rcOf (mk l) = none := by
  unfold rcOf
  rw [if_pos (by rw [mk_size]; exact h)]
theorem ans_long (c : List (List S38)) (h : 200 < (allTxt true c).length) : ans c = mk [] := by
  unfold ans
  rw [rcOf_size _ h, Option.isSome_none, Bool.and_false, if_neg (by decide)]
theorem ans_bad (c : List (List S38)) (a : List S38) (ha : a ∈ c) (h : ¬ (a.all okB = true)) : ans c = mk [] := by
  unfold ans
  rw [if_neg]
  intro h2
  rw [Bool.and_eq_true, List.all_eq_true] at h2
  exact h (h2.1 a ha)
theorem rcOf_empty (c : List (List S38)) (h : ∀ a ∈ c, a.all okB = true) (he : c = [] ∨ [] ∈ c) : rcOf (mk (allTxt true c)) = none := by
  by_cases hl : 200 < (allTxt true c).length
  · exact rcOf_size _ hl
  · unfold rcOf altsOf
    rw [if_neg (by rw [mk_size]; exact hl), bs_mk]
    cases c with
    | nil =>
      rw [allTxt, pcs_end]
      show allT altOf [mk []] = none
      rw [allT, altOf_blank [] (by simp)]
    | cons a l =>
      rw [allTxt, if_pos rfl, List.nil_append]
      refine empty_none l a [] (by simp) (fun x hx t ht => txt_free t ?_) (he.resolve_left (by simp))
      exact List.all_eq_true.1 (h x hx) t ht
theorem ans_empty (c : List (List S38)) (he : c = [] ∨ [] ∈ c) : ans c = mk [] := by
  by_cases h : ∀ a ∈ c, a.all okB = true
  · unfold ans
    rw [rcOf_empty c h he, Option.isSome_none, Bool.and_false, if_neg (by decide)]
  · have : ∃ a, a ∈ c ∧ ¬ (a.all okB = true) := Classical.byContradiction fun hn => h (fun a ha => Classical.byContradiction fun h2 => hn ⟨a, ha, h2⟩)
    obtain ⟨a, ha, h2⟩ := this
    exact ans_bad c a ha h2
theorem ans_good (c : List (List S38)) (h : ∀ a ∈ c, a.all okB = true) : ans c = if (rcOf (mk (allTxt true c))).isSome = true then mk (allTxt true c) else mk [] := by
  unfold ans
  rw [List.all_eq_true.2 h, Bool.true_and]
end Go.Proofs.YthfohhpjanoimaaDoor.P
end

section
set_option linter.unusedVariables false
set_option linter.unusedSimpArgs false
namespace Go.Proofs.YthfohhpjanoimaaDoor.P
open Go.RowKit Go.Proofs.YthfohhpjanoimaaDoorW.PrintWords Go.Proofs.YthfohhpjanoimaaDoorW.PrintLast Go.Proofs.YthfohhpjanoimaaDoorM
theorem spec_l6Term_l0w (w : ByteArray) (hw : w.size ≤ 4611686018427387904) (ops : List ByteArray) (hl : ops.length ≤ 100) : ∀ (n k i : Nat), n + 4200 ≤ k → i + n = ops.length →
    spec_l6Term.l0 k w ops (i : Int) = some (match (ops.drop i).find? (fun o => decide (o.size < w.size) && (isOp w o && verOk (w.extract o.size w.size))) with
      | none => (⟨#[]⟩, ⟨#[]⟩, false)
      | some o => (o, w.extract o.size w.size, true)) := by
  intro n
  induction n with
  | zero =>
    intro k i hk hi
    obtain ⟨k, rfl⟩ : ∃ k', k = k' + 1 := ⟨k - 1, by omega⟩
    rw [spec_l6Term.l0, if_neg (by omega), List.drop_eq_nil_of_le (by omega)]
    rfl
  | succ n ih =>
    intro k i hk hi
    obtain ⟨k, rfl⟩ : ∃ k', k = k' + 1 := ⟨k - 1, by omega⟩
    have hw1 : wrap64 ((i : Int) + 1) = ((i + 1 : Nat) : Int) := by rw [wrap64_id (by omega) (by omega)]; omega
    have hlt : i < ops.length := by omega
    have hr : rdOf ByteArray.empty ops (i : Int) = ops[i] := by simp [rdOf, List.getD_eq_getElem?_getD, List.getElem?_eq_getElem hlt]
    have ihn := ih k (i + 1) (by omega) (by omega)
    rw [spec_l6Term.l0, if_pos (by omega), if_pos (by omega), hr, hw1, List.drop_eq_getElem_cons hlt, List.find?_cons]
    by_cases h1 : ops[i].size < w.size
    · rw [if_pos (by omega), if_pos (by omega), if_pos (by omega), decide_eq_true h1, Bool.true_and]
      cases h2 : isOp w ops[i] with
      | false =>
        have : ¬ (w.extract 0 ops[i].size).toList = ops[i].toList := fun h => by rw [← beq_prefix, h] at h2; simp at h2
        rw [if_neg this, ihn, Bool.false_and]
      | true =>
        have : (w.extract 0 ops[i].size).toList = ops[i].toList := by rw [← beq_prefix] at h2; exact beq_iff_eq.1 h2
        rw [if_pos this, spec_VersionOk_eq _ k (by omega), Option.bind_some, Bool.true_and]
        cases h3 : verOk (w.extract ops[i].size w.size) with
        | false => rw [if_neg (by decide), ihn]
        | true => rw [if_pos rfl]
    · rw [if_neg (by omega), ihn, decide_eq_false h1, Bool.false_and]
theorem spec_l6Term_eqw (w : ByteArray) (hw : w.size ≤ 4611686018427387904) (k : Nat) (hk : 4400 ≤ k) : spec_l6Term.f k w = some (match tS w with
      | none => (⟨#[]⟩, ⟨#[]⟩, false)
      | some t => (t.f0, t.f1, true)) := by
  unfold spec_l6Term.f tS
  rw [toList_bs]
  by_cases h : bs w = [42]
  · rw [if_pos h, if_pos h]
  · rw [if_neg h, if_neg h]
    unfold spec_l6Ops.f
    have := spec_l6Term_l0w w hw opsS (by decide) 8 k 0 (by omega) (by decide)
    rw [Option.bind_some]
    rw [show ((0 : Nat) : Int) = 0 from rfl, List.drop_zero] at this
    refine this.trans ?_
    cases opsS.find? (fun o => decide (o.size < w.size) && (isOp w o && verOk (w.extract o.size w.size))) <;> rfl
theorem txt_size (t : S38) : (t.f0 ++ t.f1).size = (txt t).length := by rw [txt_app, mk_size]
theorem txt_parts (t : S38) : t.f0.size + t.f1.size = (txt t).length := by
  unfold txt
  rw [List.length_append, bs_length, bs_length]
theorem term_test (t : S38) (hs : (txt t).length ≤ 4611686018427387904) (k : Nat) (hk : 4400 ≤ k) (y : Option ByteArray) :
    ((spec_l6Term.f k (t.f0 ++ t.f1)).bind fun bt => (if bt.2.2 = true then (if (!(bt.1.toList == t.f0.toList) || (!(bt.2.1.toList == t.f1.toList))) = true then (some (⟨#[]⟩ : ByteArray)) else y) else (some (⟨#[]⟩ : ByteArray)))) = if okB t = true then y else some ⟨#[]⟩ := by
  rw [spec_l6Term_eqw _ (by rw [txt_size]; exact hs) k hk, ← tI_eq_tS, Option.bind_some]
  have hk := okT_iff t
  cases h : tI (t.f0 ++ t.f1) with
  | none =>
    rw [h] at hk
    rw [if_neg (by decide), if_neg (fun h2 => by have := hk.2 h2; cases this)]
  | some q =>
    rw [h] at hk
    simp only [if_true]
    by_cases h2 : okB t = true
    · have e := hk.2 h2
      injection e with e
      subst e
      rw [if_pos h2, if_neg (by simp)]
    · rw [if_neg h2, if_pos]
      cases h3 : (q.f0.toList == t.f0.toList) with
      | false => rfl
      | true =>
        cases h4 : (q.f1.toList == t.f1.toList) with
        | false => rfl
        | true =>
          refine absurd (hk.1 ?_) h2
          have e1 : q.f0 = t.f0 := bs_inj (by have := beq_iff_eq.1 h3; rwa [toList_bs, toList_bs] at this)
          have e2 : q.f1 = t.f1 := bs_inj (by have := beq_iff_eq.1 h4; rwa [toList_bs, toList_bs] at this)
          cases q
          cases t
          simp only [] at e1 e2
          rw [e1, e2]
theorem rd_terms (a : List S38) (j : Nat) (h : j < a.length) : rd_T38 a (j : Int) = a[j] := by simp [rd_T38, List.getD_eq_getElem?_getD, List.getElem?_eq_getElem h]
theorem rd_alts (c : List (List S38)) (i : Nat) (h : i < c.length) : rd_L4 c (i : Int) = c[i] := by simp [rd_L4, List.getD_eq_getElem?_getD, List.getElem?_eq_getElem h]
theorem spec_SC_l1 (c : List (List S38)) (a : List S38) (i : Nat) (hi : i < c.length) (hil : c.length ≤ 4294967296) (ha : rd_L4 c (i : Int) = a) (hal : a.length ≤ 4294967296) : ∀ (n j B : Nat) (s r : ByteArray), 4400 ≤ B → j + n = a.length →
    s.size + (altTxt (decide (j = 0)) (a.drop j)).length ≤ 4611686018427387904 →
    ((∀ t ∈ a.drop j, okB t = true) → ∀ k, B ≤ k → spec_ShowConstraint.l0 k c (mk (bs s ++ altTxt (decide (j = 0)) (a.drop j))) ((i + 1 : Nat) : Int) = some r) →
    (¬ (∀ t ∈ a.drop j, okB t = true) → r = ⟨#[]⟩) → (200 < s.size + (altTxt (decide (j = 0)) (a.drop j)).length → r = ⟨#[]⟩) →
    ∀ k, B + n + 1 ≤ k → spec_ShowConstraint.l1 k c s (i : Int) (j : Int) = some r := by
  intro n
  induction n with
  | zero =>
    intro j B s r hB hj hs h1 h2 h3 k hk
    obtain ⟨k, rfl⟩ : ∃ k', k = k' + 1 := ⟨k - 1, by omega⟩
    have hw1 : wrap64 ((i : Int) + 1) = ((i + 1 : Nat) : Int) := by rw [wrap64_id (by omega) (by omega)]; omega
    rw [List.drop_eq_nil_of_le (by omega), altTxt, List.append_nil, mk_bs] at h1
    rw [spec_ShowConstraint.l1, if_pos (by omega), if_pos (by omega), ha, if_neg (by omega), hw1]
    exact h1 (by simp) k (by omega)
  | succ n ih =>
    intro j B s r hB hj hs h1 h2 h3 k hk
    obtain ⟨k, rfl⟩ : ∃ k', k = k' + 1 := ⟨k - 1, by omega⟩
    have hlt : j < a.length := by omega
    have hw1 : wrap64 ((j : Int) + 1) = ((j + 1 : Nat) : Int) := by rw [wrap64_id (by omega) (by omega)]; omega
    have hd := List.drop_eq_getElem_cons hlt
    have hrt := rd_terms a j hlt
    revert hrt hd
    generalize a[j] = t
    intro hd hrt
    rw [hd] at h1 h2 h3 hs
    rw [altTxt] at h1 h3 hs
    have hsz := txt_size t
    have hpt := txt_parts t
    have key : ∀ (s2 : ByteArray), bs s2 = bs s ++ (if decide (j = 0) = true then [] else [32]) →
        (if okB t = true then (if wrap64 ((s2.size : Int) + ((t.f0 ++ t.f1).size : Int)) > 200 then some ⟨#[]⟩ else (if s2.size + (t.f0 ++ t.f1).size ≤ 9223372036854775807 then spec_ShowConstraint.l1 k c (s2 ++ (t.f0 ++ t.f1)) (i : Int) (wrap64 ((j : Int) + 1)) else none)) else some (⟨#[]⟩ : ByteArray)) = some r := by
      intro s2 e
      have hl2 : s2.size = s.size + (if decide (j = 0) = true then [] else [32] : List UInt8).length := by rw [← bs_length s2, e, List.length_append, bs_length]
      rw [List.length_append, List.length_append] at hs h3
      by_cases hok : okB t = true
      · rw [if_pos hok, hsz, wrap64_id (by omega) (by omega)]
        by_cases hlen : ((s2.size : Int) + ((txt t).length : Int)) > 200
        · rw [if_pos hlen, h3 (by omega)]
        · rw [if_neg hlen, if_pos (by omega), hw1]
          have e3 : bs (s2 ++ (t.f0 ++ t.f1)) = bs s ++ ((if decide (j = 0) = true then [] else [32]) ++ txt t) := by
            rw [bs_app, e, txt_app, bs_mk, List.append_assoc]
          have hl3 : (s2 ++ (t.f0 ++ t.f1)).size = s2.size + (txt t).length := by rw [← bs_length, e3, hl2, ← bs_length s]; simp; omega
          have hdj : decide (j + 1 = 0) = false := by simp
          refine ih (j + 1) B (s2 ++ (t.f0 ++ t.f1)) r hB (by omega) (by rw [hdj, hl3]; omega) ?_ ?_ (by rw [hdj, hl3]; intro h; exact h3 (by omega)) k (by omega)
          · intro hall k2 hk2
            rw [hdj, e3]
            have := h1 (fun x hx => by
              rcases List.mem_cons.1 hx with h4 | h4
              · rw [h4]; exact hok
              · exact hall x h4) k2 hk2
            simpa [List.append_assoc] using this
          · intro hnall
            exact h2 (fun hall => hnall (fun x hx => hall x (List.mem_cons_of_mem _ hx)))
      · rw [if_neg hok, h2 (fun hall => hok (hall t List.mem_cons_self))]
    rw [spec_ShowConstraint.l1, if_pos (by omega), if_pos (by omega), ha, if_pos (by omega), hrt]
    have hts : (txt t).length ≤ 4611686018427387904 := by rw [List.length_append, List.length_append] at hs; omega
    by_cases h0 : j = 0
    · rw [if_neg (by omega), if_pos (by omega), if_pos (by omega), term_test t hts k (by omega)]
      exact key s (by rw [if_pos (decide_eq_true h0), List.append_nil])
    · rw [if_pos (by omega), if_pos (by omega), if_pos (by omega), if_pos (by omega), term_test t hts k (by omega)]
      refine key (s ++ ⟨#[32]⟩) ?_
      rw [if_neg (by simpa using h0), bs_app]
      rfl
theorem spec_SC_l0 (c : List (List S38)) (W : Nat) (hil : c.length ≤ 4294967296) (hW : W ≤ 4294967296) (ha : ∀ a ∈ c, a.length ≤ W) (hsz : (allTxt true c).length ≤ 4611686018427387904) :
    ∀ (n i : Nat) (s : ByteArray), i + n = c.length → bs s ++ allTxt (decide (i = 0)) (c.drop i) = allTxt true c → (∀ a ∈ c.take i, a.all okB = true) →
    ∀ k, 1500002 + n * (W + 5) ≤ k → spec_ShowConstraint.l0 k c s (i : Int) = some (ans c) := by
  intro n
  induction n with
  | zero =>
    intro i s hi hs hok k hk
    obtain ⟨k, rfl⟩ : ∃ k', k = k' + 1 := ⟨k - 1, by omega⟩
    rw [List.drop_eq_nil_of_le (by omega), allTxt, List.append_nil] at hs
    rw [List.take_of_length_le (by omega)] at hok
    rw [spec_ShowConstraint.l0, if_neg (by omega), spec_ReadConstraint_eq s k (by omega), Option.bind_some, ans_good c hok, ← hs, mk_bs]
    by_cases hc : c = []
    · have := rcOf_empty c hok (Or.inl hc)
      rw [← hs, mk_bs] at this
      rw [this]
      rfl
    · have hcl : ¬ ((c.length : Int) = 0) := fun h => hc (List.length_eq_zero_iff.1 (by omega))
      cases hr : rcOf s with
      | none => rfl
      | some q =>
        show (if true = true then (if (c.length : Int) = 0 then some (⟨#[]⟩ : ByteArray) else some s) else some ⟨#[]⟩) = some (if true = true then s else mk [])
        rw [if_pos rfl, if_pos rfl, if_neg hcl]
  | succ n ih =>
    intro i s hi hs hok k hk
    have hmul : (n + 1) * (W + 5) = n * (W + 5) + (W + 5) := Nat.succ_mul _ _
    obtain ⟨k, rfl⟩ : ∃ k', k = k' + 1 := ⟨k - 1, by omega⟩
    obtain ⟨k, rfl⟩ : ∃ k', k = k' + 1 := ⟨k - 1, by omega⟩
    have hlt : i < c.length := by omega
    have hd := List.drop_eq_getElem_cons hlt
    have hra := rd_alts c i hlt
    have hmem : c[i] ∈ c := List.getElem_mem hlt
    have htk := List.take_succ_eq_append_getElem hlt
    revert hra hd hmem htk
    generalize c[i] = a
    intro hd hra hmem htk
    have hal := ha a hmem
    rw [hd, allTxt] at hs
    have key : ∀ (s2 : ByteArray), bs s2 = bs s ++ (if decide (i = 0) = true then [] else [32, 124, 124, 32]) → spec_ShowConstraint.l1 k c s2 (i : Int) ((0 : Nat) : Int) = some (ans c) := by
      intro s2 e
      have hs2 : bs s2 ++ (altTxt true a ++ allTxt false (c.drop (i + 1))) = allTxt true c := by rw [e, ← hs]; simp
      have hlen : s2.size + ((altTxt true a).length + (allTxt false (c.drop (i + 1))).length) = (allTxt true c).length := by rw [← hs2, List.length_append, List.length_append, bs_length]
      refine spec_SC_l1 c a i hlt hil hra (by omega) a.length 0 (1500002 + n * (W + 5)) s2 (ans c) (by omega) (by omega) ?_ ?_ ?_ ?_ k (by omega)
      · show s2.size + (altTxt true a).length ≤ _
        omega
      · intro hall k2 hk2
        refine ih (i + 1) _ (by omega) ?_ ?_ k2 hk2
        · rw [bs_mk, show decide (i + 1 = 0) = false by simp, List.append_assoc]
          exact hs2
        · intro x hx
          rw [htk] at hx
          rcases List.mem_append.1 hx with h4 | h4
          · exact hok x h4
          · rw [List.mem_singleton.1 h4]
            exact List.all_eq_true.2 hall
      · intro hn
        exact ans_bad c a hmem (fun h => hn (List.all_eq_true.1 h))
      · intro hl
        have hl : 200 < s2.size + (altTxt true a).length := hl
        exact ans_long c (by omega)
    have hss : s.size ≤ (allTxt true c).length := by rw [← hs, List.length_append, bs_length]; omega
    rw [spec_ShowConstraint.l0, if_pos (by omega)]
    by_cases h0 : i = 0
    · rw [if_neg (by omega), spec_ShowConstraint.j1]
      exact key s (by rw [if_pos (decide_eq_true h0), List.append_nil])
    · rw [if_pos (by omega), if_pos (by omega), spec_ShowConstraint.j1]
      refine key (s ++ ⟨#[32, 124, 124, 32]⟩) ?_
      rw [if_neg (by simpa using h0), bs_app]
      rfl
theorem spec_ShowConstraint_eq (c : List (List S38)) (W : Nat) (hil : c.length ≤ 4294967296) (hW : W ≤ 4294967296) (ha : ∀ a ∈ c, a.length ≤ W) (hsz : (allTxt true c).length ≤ 4611686018427387904)
    (k : Nat) (hk : 1500002 + c.length * (W + 5) ≤ k) : spec_ShowConstraint.f k c = some (ans c) := by
  unfold spec_ShowConstraint.f
  exact spec_SC_l0 c W hil hW ha hsz c.length 0 _ (by omega) (by simp [bs]) (by simp) k hk
end Go.Proofs.YthfohhpjanoimaaDoor.P
end

section
set_option linter.unusedVariables false
set_option linter.unusedSimpArgs false
namespace Go.Proofs.YthfohhpjanoimaaDoor.P
open Go.RowKit Go.Proofs.YthfohhpjanoimaaDoorW.PrintWords Go.Proofs.YthfohhpjanoimaaDoorW.PrintLast Go.Proofs.YthfohhpjanoimaaDoorM
theorem altTxt_tail : ∀ (l : List S38), altTxt false l = Lib.joinTail [32] (l.map txt)
  | [] => rfl
  | t :: l => by
    rw [altTxt, altTxt_tail l, if_neg (by decide)]
    unfold Lib.joinTail
    simp
theorem altTxt_join (l : List S38) : altTxt true l = Lib.join (l.map txt) [32] := by
  cases l with
  | nil => rfl
  | cons t l => rw [altTxt, if_pos rfl, List.nil_append, altTxt_tail, List.map_cons, Lib.join_cons]
theorem allTxt_tail : ∀ (l : List (List S38)), allTxt false l = Lib.joinTail [32, 124, 124, 32] (l.map (altTxt true))
  | [] => rfl
  | t :: l => by
    rw [allTxt, allTxt_tail l, if_neg (by decide)]
    unfold Lib.joinTail
    simp
theorem allTxt_join (l : List (List S38)) : allTxt true l = Lib.join (l.map (altTxt true)) [32, 124, 124, 32] := by
  cases l with
  | nil => rfl
  | cons t l => rw [allTxt, if_pos rfl, List.nil_append, allTxt_tail, List.map_cons, Lib.join_cons]
theorem Join_eq (l : List ByteArray) (sep : ByteArray) (h1 : l.length ≤ 140737488355328) (h2 : (Lib.join (l.map bs) (bs sep)).length ≤ 140737488355328) : strings_Join.f l sep = some (mk (Lib.join (l.map bs) (bs sep))) := by
  unfold strings_Join.f
  have e : (fun x : ByteArray => x.data.toList) = bs := rfl
  rw [show sep.data.toList = bs sep from rfl, e, if_pos ⟨h1, h2⟩]
  rfl
theorem idx_l0 (l : List ByteArray) (x : ByteArray) (hl : l.length ≤ 100) : ∀ (n k i : Nat), n + 1 ≤ k → i + n = l.length →
    ∃ r, slices_Index_string_string.l0 k l x (l.length : Int) (i : Int) = some r ∧ (r ≥ 0 ↔ ∃ o ∈ l.drop i, bs x = bs o) := by
  intro n
  induction n with
  | zero =>
    intro k i hk hi
    obtain ⟨k, rfl⟩ : ∃ k', k = k' + 1 := ⟨k - 1, by omega⟩
    rw [slices_Index_string_string.l0, if_neg (by omega), List.drop_eq_nil_of_le (by omega)]
    exact ⟨_, rfl, ⟨fun h => absurd h (by decide), fun ⟨o, ho, _⟩ => by cases ho⟩⟩
  | succ n ih =>
    intro k i hk hi
    obtain ⟨k, rfl⟩ : ∃ k', k = k' + 1 := ⟨k - 1, by omega⟩
    have hw1 : wrap64 ((i : Int) + 1) = ((i + 1 : Nat) : Int) := by rw [wrap64_id (by omega) (by omega)]; omega
    have hlt : i < l.length := by omega
    rw [slices_Index_string_string.l0, if_pos (by omega), if_pos (by omega), if_pos (by omega), rd_at l i hlt, hw1, toList_bs, toList_bs, List.drop_eq_getElem_cons hlt]
    by_cases h : bs x = bs l[i]
    · rw [if_pos h]
      exact ⟨_, rfl, ⟨fun _ => ⟨_, List.mem_cons_self, h⟩, fun _ => by omega⟩⟩
    · rw [if_neg h]
      obtain ⟨r, h1, h2⟩ := ih k (i + 1) (by omega) (by omega)
      refine ⟨r, h1, h2.trans ⟨fun ⟨o, h3, h4⟩ => ⟨o, List.mem_cons_of_mem _ h3, h4⟩, fun ⟨o, h3, h4⟩ => ?_⟩⟩
      rcases List.mem_cons.1 h3 with h5 | h5
      · exact absurd (h5 ▸ h4) h
      · exact ⟨o, h5, h4⟩
def opsC : List ByteArray := [(⟨#[42]⟩ : ByteArray), (⟨#[61]⟩ : ByteArray), (⟨#[33, 61]⟩ : ByteArray), (⟨#[62]⟩ : ByteArray), (⟨#[62, 61]⟩ : ByteArray), (⟨#[60]⟩ : ByteArray), (⟨#[60, 61]⟩ : ByteArray), (⟨#[94]⟩ : ByteArray), (⟨#[126]⟩ : ByteArray)]
theorem opsC_bs : opsC.map bs = opLC := rfl
theorem contains_eq (x : ByteArray) (k : Nat) (hk : 20 ≤ k) : slices_Contains_string_string.f k opsC x = some (decide (bs x ∈ opLC)) := by
  unfold slices_Contains_string_string.f slices_Index_string_string.f
  obtain ⟨r, h1, h2⟩ := idx_l0 opsC x (by decide) 9 k 0 (by omega) (by decide)
  rw [show ((0 : Nat) : Int) = 0 from rfl] at h1
  rw [h1, Option.bind_some]
  have : (r ≥ 0) = (bs x ∈ opLC) := by
    apply propext
    rw [h2, List.drop_zero, ← opsC_bs, List.mem_map]
    exact ⟨fun ⟨o, h3, h4⟩ => ⟨o, h3, h4.symm⟩, fun ⟨o, h3, h4⟩ => ⟨o, h3, h4.symm⟩⟩
  simp only [this]
def shown (t : S38) : ByteArray := t.f0 ++ t.f1
theorem shown_bs (l : List S38) : (l.map shown).map bs = l.map txt := by
  rw [List.map_map]
  refine List.map_congr_left fun t _ => ?_
  show bs (t.f0 ++ t.f1) = txt t
  rw [txt_app, bs_mk]
def contC (k : Nat) (x3 : List ByteArray) (x12 : List (List S38)) (x13 x14 : Int) (x6 : List ByteArray) : Option ByteArray :=
  if (x6.length : Int) = 0 then (some (⟨#[]⟩ : ByteArray)) else ((strings_Join.f x6 (⟨#[32]⟩ : ByteArray)).bind fun t398 => (if x3.length < 8796093022208 then (impl_ShowConstraint.l0 k (x3 ++ [t398]) x12 x13 (wrap64 (x14 + 1))) else (none)))
theorem impl_SC_l1 (c : List (List S38)) (a : List S38) (x3 : List ByteArray) (x13 x14 : Int) (hal : a.length ≤ 4294967296) (hts : ∀ t ∈ a, (txt t).length ≤ 4611686018427387904) :
    ∀ (n j B : Nat) (acc : List ByteArray) (r : ByteArray), 3000 ≤ B → j + n = a.length → acc.length ≤ j →
    ((∀ t ∈ a.drop j, okB t = true) → ∀ k, B ≤ k → contC k x3 c x13 x14 (acc ++ (a.drop j).map shown) = some r) →
    (¬ (∀ t ∈ a.drop j, okB t = true) → r = ⟨#[]⟩) →
    ∀ k, B + n + 1 ≤ k → impl_ShowConstraint.l1 k x3 acc c x13 x14 a (a.length : Int) (j : Int) = some r := by
  intro n
  induction n with
  | zero =>
    intro j B acc r hB hj hacc h1 h2 k hk
    obtain ⟨k, rfl⟩ : ∃ k', k = k' + 1 := ⟨k - 1, by omega⟩
    rw [List.drop_eq_nil_of_le (by omega), List.map_nil, List.append_nil] at h1
    rw [impl_ShowConstraint.l1, if_neg (by omega)]
    exact h1 (by simp) k (by omega)
  | succ n ih =>
    intro j B acc r hB hj hacc h1 h2 k hk
    obtain ⟨k, rfl⟩ : ∃ k', k = k' + 1 := ⟨k - 1, by omega⟩
    have hlt : j < a.length := by omega
    have hw1 : wrap64 ((j : Int) + 1) = ((j + 1 : Nat) : Int) := by rw [wrap64_id (by omega) (by omega)]; omega
    have hd := List.drop_eq_getElem_cons hlt
    have hrt := rd_terms a j hlt
    have htt := hts _ (List.getElem_mem hlt)
    revert hrt hd htt
    generalize a[j] = t
    intro hd hrt htt
    rw [hd] at h1 h2
    have hpt := txt_parts t
    have hgo : okB t = true → impl_ShowConstraint.l1 k x3 (acc ++ [t.f0 ++ t.f1]) c x13 x14 a (a.length : Int) ((j + 1 : Nat) : Int) = some r := by
      intro hok
      refine ih (j + 1) B _ r hB (by omega) (by rw [List.length_append, List.length_singleton]; omega) ?_ ?_ k (by omega)
      · intro hall k2 hk2
        have := h1 (fun x hx => by
          rcases List.mem_cons.1 hx with h4 | h4
          · rw [h4]; exact hok
          · exact hall x h4) k2 hk2
        rw [List.map_cons] at this
        rw [List.append_assoc]
        exact this
      · intro hnall
        exact h2 (fun hall => hnall (fun x hx => hall x (List.mem_cons_of_mem _ hx)))
    have hbad : ¬ (okB t = true) → r = ⟨#[]⟩ := fun h => h2 (fun hall => h (hall t List.mem_cons_self))
    have hiff := okB_iff t
    unfold vL at hiff
    rw [mk_bs] at hiff
    rw [impl_ShowConstraint.l1, if_pos (by omega), if_pos (by omega), if_pos (by omega), hrt]
    change ((slices_Contains_string_string.f k opsC t.f0).bind _) = _
    rw [contains_eq _ k (by omega), Option.bind_some, hw1, toList_bs, toList_bs]
    by_cases m : bs t.f0 ∈ opLC
    · rw [if_pos (decide_eq_true m)]
      by_cases s : bs t.f0 = [42]
      · by_cases e : bs t.f1 = []
        · rw [if_neg (by rw [s, e]; decide), if_pos s, if_pos (by omega), if_pos (by omega)]
          exact hgo (hiff.2 ⟨m, ⟨fun _ => e, fun _ => s⟩, Or.inl s⟩)
        · rw [if_pos (by rw [s]; simpa using e), hbad (fun h => e ((hiff.1 h).2.1.1 s))]
      · by_cases e : bs t.f1 = []
        · rw [if_pos (by rw [e]; simpa using s), hbad (fun h => s ((hiff.1 h).2.1.2 e))]
        · have hb1 : (bs t.f0 == [42]) = false := by simpa using s
          have hb2 : (bs t.f1 == []) = false := by simpa using e
          rw [if_neg (by rw [hb1, hb2]; decide), if_neg s, impl_VersionOk_eq _ k (by omega), Option.bind_some]
          cases hv : verOk t.f1 with
          | true =>
            rw [if_pos rfl, if_pos (by omega), if_pos (by omega)]
            exact hgo (hiff.2 ⟨m, ⟨fun h => absurd h s, fun h => absurd h e⟩, Or.inr hv⟩)
          | false =>
            rw [if_neg (by decide), hbad (fun h => by
              rcases (hiff.1 h).2.2 with h3 | h3
              · exact s h3
              · rw [hv] at h3; cases h3)]
    · rw [if_neg (by simpa using m), hbad (fun h => m (hiff.1 h).1)]
theorem impl_SC_l0 (c : List (List S38)) (W : Nat) (hil : c.length ≤ 4294967296) (hW : W ≤ 4294967296) (ha : ∀ a ∈ c, a.length ≤ W ∧ (altTxt true a).length ≤ 140737488355328 ∧ ∀ t ∈ a, (txt t).length ≤ 4611686018427387904) (hsz : (allTxt true c).length ≤ 140737488355328) :
    ∀ (n i : Nat) (x3 : List ByteArray), i + n = c.length → x3.length = i → x3.map bs = (c.take i).map (altTxt true) → (∀ a ∈ c.take i, a.all okB = true) →
    ∀ k, 1500002 + n * (W + 5) ≤ k → impl_ShowConstraint.l0 k x3 c (c.length : Int) (i : Int) = some (ans c) := by
  intro n
  induction n with
  | zero =>
    intro i x3 hi hx hs hok k hk
    obtain ⟨k, rfl⟩ : ∃ k', k = k' + 1 := ⟨k - 1, by omega⟩
    rw [List.take_of_length_le (by omega)] at hok hs
    have hj : Lib.join (x3.map bs) (bs (⟨#[32, 124, 124, 32]⟩ : ByteArray)) = allTxt true c := by rw [hs, allTxt_join]; rfl
    rw [impl_ShowConstraint.l0, if_neg (by omega), Join_eq _ _ (by omega) (by rw [hj]; exact hsz), hj, Option.bind_some, impl_ReadConstraint_eq _ k (by omega), Option.bind_some, ans_good c hok]
    cases rcOf (mk (allTxt true c)) <;> rfl
  | succ n ih =>
    intro i x3 hi hx hs hok k hk
    have hmul : (n + 1) * (W + 5) = n * (W + 5) + (W + 5) := Nat.succ_mul _ _
    obtain ⟨k, rfl⟩ : ∃ k', k = k' + 1 := ⟨k - 1, by omega⟩
    have hlt : i < c.length := by omega
    have hw1 : wrap64 ((i : Int) + 1) = ((i + 1 : Nat) : Int) := by rw [wrap64_id (by omega) (by omega)]; omega
    have hra := rd_alts c i hlt
    have hmem : c[i] ∈ c := List.getElem_mem hlt
    have htk := List.take_succ_eq_append_getElem hlt
    revert hra hmem htk
    generalize c[i] = a
    intro hra hmem htk
    obtain ⟨hal, hat, hts⟩ := ha a hmem
    rw [impl_ShowConstraint.l0, if_pos (by omega), if_pos (by omega), if_pos (by omega), hra]
    change impl_ShowConstraint.l1 k x3 [] c (c.length : Int) (i : Int) a (a.length : Int) ((0 : Nat) : Int) = _
    refine impl_SC_l1 c a x3 (c.length : Int) (i : Int) (by omega) hts a.length 0 (1500002 + n * (W + 5)) [] (ans c) (by omega) (by omega) (by simp) ?_ ?_ k (by omega)
    · intro hall k2 hk2
      rw [List.drop_zero, List.nil_append]
      rw [List.drop_zero] at hall
      unfold contC
      by_cases he : a = []
      · rw [if_pos (by rw [he]; rfl), ans_empty c (Or.inr (he ▸ hmem))]
        rfl
      · have hne : ¬ ((((a.map shown).length : Nat) : Int) = 0) := fun h => he (List.length_eq_zero_iff.1 (by rw [List.length_map] at h; omega))
        have hj : Lib.join ((a.map shown).map bs) (bs (⟨#[32]⟩ : ByteArray)) = altTxt true a := by rw [shown_bs, altTxt_join]; rfl
        rw [if_neg hne, Join_eq _ _ (by rw [List.length_map]; omega) (by rw [hj]; exact hat), hj, Option.bind_some, if_pos (by omega), hw1]
        refine ih (i + 1) _ (by omega) (by rw [List.length_append, List.length_singleton, hx]) ?_ ?_ k2 hk2
        · rw [htk, List.map_append, List.map_append, hs]
          simp [bs_mk]
        · intro x hx
          rw [htk] at hx
          rcases List.mem_append.1 hx with h4 | h4
          · exact hok x h4
          · rw [List.mem_singleton.1 h4]
            exact List.all_eq_true.2 hall
    · intro hn
      rw [List.drop_zero] at hn
      exact ans_bad c a hmem (fun h => hn (List.all_eq_true.1 h))
theorem impl_ShowConstraint_eq (c : List (List S38)) (W : Nat) (hil : c.length ≤ 4294967296) (hW : W ≤ 4294967296) (ha : ∀ a ∈ c, a.length ≤ W ∧ (altTxt true a).length ≤ 140737488355328 ∧ ∀ t ∈ a, (txt t).length ≤ 4611686018427387904) (hsz : (allTxt true c).length ≤ 140737488355328)
    (k : Nat) (hk : 1500002 + c.length * (W + 5) ≤ k) : impl_ShowConstraint.f k c = some (ans c) := by
  unfold impl_ShowConstraint.f
  exact impl_SC_l0 c W hil hW ha hsz c.length 0 [] (by omega) rfl rfl (by simp) k hk
end Go.Proofs.YthfohhpjanoimaaDoor.P
end

section
set_option linter.unusedVariables false
set_option linter.unusedSimpArgs false
namespace Go.Proofs.YthfohhpjanoimaaDoor.P
open Go.RowKit Go.Proofs.YthfohhpjanoimaaDoorW.PrintWords Go.Proofs.YthfohhpjanoimaaDoorW.PrintLast Go.Proofs.YthfohhpjanoimaaDoorM
def fitsT (c : List (List S69)) : Prop := c.length ≤ 9223372036854775807 ∧ ∀ a ∈ c, a.length ≤ 9223372036854775807 ∧ ∀ t ∈ a, t.f0.size ≤ 9223372036854775807 ∧ t.f1.size ≤ 9223372036854775807
theorem fitsT_of (c : List (List S69)) (hl : c.length ≤ maxLen) (hg : ∀ a ∈ c, a.length ≤ maxLen ∧ ∀ t ∈ a, t.f0.size ≤ maxLen ∧ t.f1.size ≤ maxLen) : fitsT c := by
  unfold maxLen at hl hg
  refine ⟨by omega, fun a ha => ⟨by have := (hg a ha).1; omega, fun t ht => ?_⟩⟩
  have := (hg a ha).2 t ht
  omega
theorem rd_lt (a : List S69) (j : Nat) (h : j < a.length) : rd_T69 a (j : Int) = a[j] := by simp [rd_T69, List.getD_eq_getElem?_getD, List.getElem?_eq_getElem h]
theorem rd_la (c : List (List S69)) (i : Nat) (h : i < c.length) : rd_L10 c (i : Int) = c[i] := by simp [rd_L10, List.getD_eq_getElem?_getD, List.getElem?_eq_getElem h]
def wtT : List S69 → Nat
  | [] => 0
  | t :: l => t.f0.size + t.f1.size + wtT l
def wtA : List (List S69) → Nat
  | [] => 0
  | a :: l => a.length + wtT a + wtA l
theorem szTerm_eq (p d : ByteArray) (a : Int) (hp : p.size ≤ 9223372036854775807) (hd : d.size ≤ 9223372036854775807) (ha : 0 ≤ a) (hb : a ≤ 1048576) :
    ∃ r, laws_szTerm.f p d a = some r ∧ r ≤ a ∧ (0 ≤ r → ((p.size + d.size : Nat) : Int) = a - r) := by
  unfold laws_szTerm.f
  rw [wrap64_id (n := a - (p.size : Int)) (by omega) (by omega)]
  by_cases h : a - (p.size : Int) < 0
  · rw [if_pos h]; exact ⟨_, rfl, by omega, by omega⟩
  · rw [if_neg h, wrap64_id (by omega) (by omega)]
    by_cases h2 : a - (p.size : Int) - (d.size : Int) < 0
    · rw [if_pos h2]; exact ⟨_, rfl, by omega, by omega⟩
    · rw [if_neg h2]; exact ⟨_, rfl, by omega, by omega⟩
theorem szTermS_l0 (t : List S69) (hl : t.length ≤ 1048576) (hf : ∀ x ∈ t, x.f0.size ≤ 9223372036854775807 ∧ x.f1.size ≤ 9223372036854775807) : ∀ (n k i : Nat) (a : Int), n + 1 ≤ k → i + n = t.length → 0 ≤ a → a ≤ 1048576 →
    ∃ r, laws_szTermS.l0 k t a (i : Int) = some r ∧ r ≤ a ∧ (0 ≤ r → (wtT (t.drop i) : Int) = a - r) := by
  intro n
  induction n with
  | zero =>
    intro k i a hk hi _ _
    obtain ⟨k, rfl⟩ : ∃ k', k = k' + 1 := ⟨k - 1, by omega⟩
    rw [laws_szTermS.l0, if_neg (by omega), List.drop_eq_nil_of_le (by omega)]
    exact ⟨_, rfl, by omega, fun _ => by rw [wtT]; omega⟩
  | succ n ih =>
    intro k i a hk hi h0 h1
    obtain ⟨k, rfl⟩ : ∃ k', k = k' + 1 := ⟨k - 1, by omega⟩
    have hlt : i < t.length := by omega
    have hw : wrap64 ((i : Int) + 1) = ((i + 1 : Nat) : Int) := by rw [wrap64_id (by omega) (by omega)]; omega
    obtain ⟨r, hr, hra, hr2⟩ := szTerm_eq t[i].f0 t[i].f1 a (hf _ (List.getElem_mem hlt)).1 (hf _ (List.getElem_mem hlt)).2 h0 h1
    rw [laws_szTermS.l0, if_pos (by omega), if_pos (by omega), rd_lt t i hlt, hr, Option.bind_some, hw]
    by_cases hneg : r < 0
    · rw [if_pos hneg]; exact ⟨_, rfl, by omega, by omega⟩
    · rw [if_neg hneg]
      obtain ⟨q, hq, hqa, hq2⟩ := ih k (i + 1) r (by omega) (by omega) (by omega) (by omega)
      refine ⟨q, hq, by omega, fun h => ?_⟩
      have e1 := hq2 h
      have e2 := hr2 (by omega)
      rw [List.drop_eq_getElem_cons hlt, wtT]
      omega
theorem szTermS_eq (t : List S69) (hl : t.length ≤ 9223372036854775807) (hf : ∀ x ∈ t, x.f0.size ≤ 9223372036854775807 ∧ x.f1.size ≤ 9223372036854775807) (a : Int) (h0 : 0 ≤ a) (h1 : a ≤ 1048576) (k : Nat) (hk : 1048577 ≤ k) :
    ∃ r, laws_szTermS.f k t a = some r ∧ r ≤ a ∧ (0 ≤ r → ((t.length + wtT t : Nat) : Int) = a - r) := by
  unfold laws_szTermS.f
  rw [wrap64_id (by omega) (by omega)]
  by_cases h : a - (t.length : Int) < 0
  · rw [if_pos h]; exact ⟨_, rfl, by omega, by omega⟩
  · rw [if_neg h]
    obtain ⟨r, hr, hra, h2⟩ := szTermS_l0 t (by omega) hf t.length k 0 (a - (t.length : Int)) (by omega) (by omega) (by omega) (by omega)
    refine ⟨r, hr, by omega, fun h3 => ?_⟩
    have := h2 h3
    rw [List.drop_zero] at this
    omega
theorem szTermSS_l0 (c : List (List S69)) (hl : c.length ≤ 1048576) (hf : fitsT c) : ∀ (n k i : Nat) (a : Int), n + 1048578 ≤ k → i + n = c.length → 0 ≤ a → a ≤ 1048576 →
    ∃ r, laws_szTermSS.l0 k c a (i : Int) = some r ∧ r ≤ a ∧ (0 ≤ r → (wtA (c.drop i) : Int) = a - r) := by
  intro n
  induction n with
  | zero =>
    intro k i a hk hi _ _
    obtain ⟨k, rfl⟩ : ∃ k', k = k' + 1 := ⟨k - 1, by omega⟩
    rw [laws_szTermSS.l0, if_neg (by omega), List.drop_eq_nil_of_le (by omega)]
    exact ⟨_, rfl, by omega, fun _ => by rw [wtA]; omega⟩
  | succ n ih =>
    intro k i a hk hi h0 h1
    obtain ⟨k, rfl⟩ : ∃ k', k = k' + 1 := ⟨k - 1, by omega⟩
    have hlt : i < c.length := by omega
    have hw : wrap64 ((i : Int) + 1) = ((i + 1 : Nat) : Int) := by rw [wrap64_id (by omega) (by omega)]; omega
    obtain ⟨r, hr, hra, hr2⟩ := szTermS_eq c[i] (hf.2 _ (List.getElem_mem hlt)).1 (hf.2 _ (List.getElem_mem hlt)).2 a h0 h1 k (by omega)
    rw [laws_szTermSS.l0, if_pos (by omega), if_pos (by omega), rd_la c i hlt, hr, Option.bind_some, hw]
    by_cases hneg : r < 0
    · rw [if_pos hneg]; exact ⟨_, rfl, by omega, by omega⟩
    · rw [if_neg hneg]
      obtain ⟨q, hq, hqa, hq2⟩ := ih k (i + 1) r (by omega) (by omega) (by omega) (by omega)
      refine ⟨q, hq, by omega, fun h => ?_⟩
      have e1 := hq2 h
      have e2 := hr2 (by omega)
      rw [List.drop_eq_getElem_cons hlt, wtA]
      omega
theorem szTermSS_eq (c : List (List S69)) (hf : fitsT c) (k : Nat) (hk : 2097154 ≤ k) :
    ∃ r, laws_szTermSS.f k c 1048576 = some r ∧ (0 ≤ r → c.length + wtA c ≤ 1048576) := by
  have hl := hf.1
  unfold laws_szTermSS.f
  rw [wrap64_id (by omega) (by omega)]
  by_cases h : 1048576 - (c.length : Int) < 0
  · rw [if_pos h]; exact ⟨_, rfl, by omega⟩
  · rw [if_neg h]
    obtain ⟨r, hr, hra, h2⟩ := szTermSS_l0 c (by omega) hf c.length k 0 (1048576 - (c.length : Int)) (by omega) (by omega) (by omega) (by omega)
    refine ⟨r, hr, fun h3 => ?_⟩
    have := h2 h3
    rw [List.drop_zero] at this
    omega
def cvT (t : S69) : S38 := ⟨t.f0, t.f1⟩
theorem toTermS_l0 (t : List S69) (hl : t.length ≤ 1048576) : ∀ (n k i : Nat), n + 1 ≤ k → i + n = t.length →
    laws_toTermS.l0 k t ((t.take i).map cvT ++ List.replicate n z38) (i : Int) = some (t.map cvT) := by
  intro n
  induction n with
  | zero =>
    intro k i hk hi
    obtain ⟨k, rfl⟩ : ∃ k', k = k' + 1 := ⟨k - 1, by omega⟩
    rw [laws_toTermS.l0, if_neg (by omega), List.take_of_length_le (by omega)]
    simp
  | succ n ih =>
    intro k i hk hi
    obtain ⟨k, rfl⟩ : ∃ k', k = k' + 1 := ⟨k - 1, by omega⟩
    have hw : wrap64 ((i : Int) + 1) = ((i + 1 : Nat) : Int) := by rw [wrap64_id (by omega) (by omega)]; omega
    have hlt : i < t.length := by omega
    have htl : ((t.take i).map cvT).length = i := by simp; omega
    rw [laws_toTermS.l0, if_pos (by omega), if_pos (by omega), rd_lt t i hlt]
    unfold laws_toTerm.f
    rw [Option.bind_some, if_pos (by simp; omega), hw, Int.toNat_natCast]
    have e : ((t.take i).map cvT ++ List.replicate (n + 1) z38).set i ⟨t[i].f0, t[i].f1⟩ = (t.take (i + 1)).map cvT ++ List.replicate n z38 := by
      rw [List.set_append_right _ _ (by omega), htl, Nat.sub_self, List.replicate_succ, List.set_cons_zero, List.take_succ_eq_append_getElem hlt, List.map_append]
      simp only [List.map_cons, List.map_nil, List.append_assoc, List.singleton_append]
      rfl
    show laws_toTermS.l0 k t (((t.take i).map cvT ++ List.replicate (n + 1) z38).set i ⟨t[i].f0, t[i].f1⟩) _ = _
    rw [e]
    exact ih k (i + 1) (by omega) (by omega)
theorem toTermS_eq (t : List S69) (hl : t.length ≤ 1048576) (k : Nat) (hk : 1048577 ≤ k) : laws_toTermS.f k t = some (t.map cvT) := by
  unfold laws_toTermS.f
  rw [if_pos (by omega), if_pos (by omega), Int.toNat_natCast]
  have := toTermS_l0 t hl t.length k 0 (by omega) (by omega)
  simpa using this
def cvA (a : List S69) : List S38 := a.map cvT
theorem toTermSS_l0 (c : List (List S69)) (hl : c.length ≤ 1048576) (ha : ∀ a ∈ c, a.length ≤ 1048576) : ∀ (n k i : Nat), n + 1048578 ≤ k → i + n = c.length →
    laws_toTermSS.l0 k c ((c.take i).map cvA ++ List.replicate n []) (i : Int) = some (c.map cvA) := by
  intro n
  induction n with
  | zero =>
    intro k i hk hi
    obtain ⟨k, rfl⟩ : ∃ k', k = k' + 1 := ⟨k - 1, by omega⟩
    rw [laws_toTermSS.l0, if_neg (by omega), List.take_of_length_le (by omega)]
    simp
  | succ n ih =>
    intro k i hk hi
    obtain ⟨k, rfl⟩ : ∃ k', k = k' + 1 := ⟨k - 1, by omega⟩
    have hw : wrap64 ((i : Int) + 1) = ((i + 1 : Nat) : Int) := by rw [wrap64_id (by omega) (by omega)]; omega
    have hlt : i < c.length := by omega
    have htl : ((c.take i).map cvA).length = i := by simp; omega
    rw [laws_toTermSS.l0, if_pos (by omega), if_pos (by omega), rd_la c i hlt, toTermS_eq _ (ha _ (List.getElem_mem hlt)) k (by omega), Option.bind_some, if_pos (by simp; omega), hw, Int.toNat_natCast]
    have e : ((c.take i).map cvA ++ List.replicate (n + 1) []).set i (c[i].map cvT) = (c.take (i + 1)).map cvA ++ List.replicate n [] := by
      rw [List.set_append_right _ _ (by omega), htl, Nat.sub_self, List.replicate_succ, List.set_cons_zero, List.take_succ_eq_append_getElem hlt, List.map_append]
      simp only [List.map_cons, List.map_nil, List.append_assoc, List.singleton_append]
      rfl
    rw [e]
    exact ih k (i + 1) (by omega) (by omega)
theorem toTermSS_eq (c : List (List S69)) (hl : c.length ≤ 1048576) (ha : ∀ a ∈ c, a.length ≤ 1048576) (k : Nat) (hk : 2097154 ≤ k) : laws_toTermSS.f k c = some (c.map cvA) := by
  unfold laws_toTermSS.f
  rw [if_pos (by omega), if_pos (by omega), Int.toNat_natCast]
  have := toTermSS_l0 c hl ha c.length k 0 (by omega) (by omega)
  simpa using this
theorem eqTermS_l0 (t : List S38) (hl : t.length ≤ 1048576) : ∀ (n k i : Nat), n + 1 ≤ k → i + n = t.length → laws_eqTermS.l0 k t t (i : Int) = some true := by
  intro n
  induction n with
  | zero =>
    intro k i hk hi
    obtain ⟨k, rfl⟩ : ∃ k', k = k' + 1 := ⟨k - 1, by omega⟩
    rw [laws_eqTermS.l0, if_neg (by omega)]
  | succ n ih =>
    intro k i hk hi
    obtain ⟨k, rfl⟩ : ∃ k', k = k' + 1 := ⟨k - 1, by omega⟩
    have hw : wrap64 ((i : Int) + 1) = ((i + 1 : Nat) : Int) := by rw [wrap64_id (by omega) (by omega)]; omega
    rw [laws_eqTermS.l0, if_pos (by omega), if_pos (by omega), if_pos (by omega), hw]
    unfold laws_eqTerm.f
    rw [if_pos rfl, if_pos rfl, Option.bind_some, if_pos rfl]
    exact ih k (i + 1) (by omega) (by omega)
theorem eqTermS_refl (t : List S38) (hl : t.length ≤ 1048576) (k : Nat) (hk : 1048577 ≤ k) : laws_eqTermS.f k t t = some true := by
  unfold laws_eqTermS.f
  rw [if_pos rfl]
  exact eqTermS_l0 t hl t.length k 0 (by omega) (by omega)
theorem eqTermSS_l0 (c : List (List S38)) (hl : c.length ≤ 1048576) (ha : ∀ a ∈ c, a.length ≤ 1048576) : ∀ (n k i : Nat), n + 1048578 ≤ k → i + n = c.length → laws_eqTermSS.l0 k c c (i : Int) = some true := by
  intro n
  induction n with
  | zero =>
    intro k i hk hi
    obtain ⟨k, rfl⟩ : ∃ k', k = k' + 1 := ⟨k - 1, by omega⟩
    rw [laws_eqTermSS.l0, if_neg (by omega)]
  | succ n ih =>
    intro k i hk hi
    obtain ⟨k, rfl⟩ : ∃ k', k = k' + 1 := ⟨k - 1, by omega⟩
    have hlt : i < c.length := by omega
    have hw : wrap64 ((i : Int) + 1) = ((i + 1 : Nat) : Int) := by rw [wrap64_id (by omega) (by omega)]; omega
    rw [laws_eqTermSS.l0, if_pos (by omega), if_pos (by omega), if_pos (by omega), hw, rd_alts c i hlt, eqTermS_refl _ (ha _ (List.getElem_mem hlt)) k (by omega), Option.bind_some, if_pos rfl]
    exact ih k (i + 1) (by omega) (by omega)
theorem eqTermSS_refl (c : List (List S38)) (hl : c.length ≤ 1048576) (ha : ∀ a ∈ c, a.length ≤ 1048576) (k : Nat) (hk : 2097154 ≤ k) : laws_eqTermSS.f k c c = some true := by
  unfold laws_eqTermSS.f
  rw [if_pos rfl]
  exact eqTermSS_l0 c hl ha c.length k 0 (by omega) (by omega)
theorem altTxt_size : ∀ (a : List S69) (fst : Bool), (altTxt fst (a.map cvT)).length ≤ a.length + wtT a
  | [], _ => by simp [altTxt]
  | t :: l, fst => by
    have := altTxt_size l false
    have h2 := txt_parts (cvT t)
    rw [List.map_cons, altTxt, List.length_append, List.length_append, wtT, List.length_cons]
    have h3 : (cvT t).f0.size + (cvT t).f1.size = t.f0.size + t.f1.size := rfl
    cases fst <;> simp <;> omega
theorem allTxt_size : ∀ (c : List (List S69)) (fst : Bool), (allTxt fst (c.map cvA)).length ≤ 4 * c.length + wtA c
  | [], _ => by simp [allTxt]
  | a :: l, fst => by
    have := allTxt_size l false
    have h2 := altTxt_size a true
    rw [List.map_cons, allTxt, List.length_append, List.length_append, wtA, List.length_cons]
    have h3 : (altTxt true (cvA a)).length ≤ a.length + wtT a := h2
    cases fst <;> simp <;> omega
theorem wtT_mem : ∀ (a : List S69) (t : S69), t ∈ a → t.f0.size + t.f1.size ≤ wtT a
  | x :: l, t, h => by
    rw [wtT]
    rcases List.mem_cons.1 h with h1 | h1
    · rw [h1]; omega
    · have := wtT_mem l t h1; omega
theorem wtA_mem : ∀ (c : List (List S69)) (a : List S69), a ∈ c → a.length + wtT a ≤ wtA c
  | x :: l, a, h => by
    rw [wtA]
    rcases List.mem_cons.1 h with h1 | h1
    · rw [h1]; omega
    · have := wtA_mem l a h1; omega
theorem FnExactShowConstraint_pure (l0 : List (List S69)) (hf : fitsT l0) : ∃ k, laws_FnExactShowConstraint.f k l0 = some true := by
  refine ⟨2000000000000, ?_⟩
  unfold laws_FnExactShowConstraint.f
  obtain ⟨r, hr, hs⟩ := szTermSS_eq l0 hf 2000000000000 (by decide)
  rw [hr, Option.bind_some]
  by_cases h : r < 0
  · rw [if_pos h]
  · rw [if_neg h]
    have hw := hs (by omega)
    have hal : ∀ a ∈ l0, a.length ≤ 1048576 := fun a ha => by have := wtA_mem l0 a ha; omega
    have hcl : (l0.map cvA).length ≤ 1048576 := by rw [List.length_map]; omega
    have hca : ∀ a ∈ l0.map cvA, a.length ≤ 1048576 := fun a ha => by
      obtain ⟨b, hb, rfl⟩ := List.mem_map.1 ha
      unfold cvA
      rw [List.length_map]
      exact hal b hb
    have htx := allTxt_size l0 true
    have hfuel : 1500002 + (l0.map cvA).length * (1048576 + 5) ≤ 2000000000000 := by
      have := Nat.mul_le_mul_right (1048576 + 5) hcl
      omega
    rw [toTermSS_eq l0 (by omega) hal _ (by decide), Option.bind_some, spec_ShowConstraint_eq (l0.map cvA) 1048576 (by omega) (by decide) hca (by omega) _ hfuel, Option.bind_some, Option.bind_some,
      impl_ShowConstraint_eq (l0.map cvA) 1048576 (by omega) (by decide) (fun a ha => by
        refine ⟨hca a ha, ?_, ?_⟩
        · obtain ⟨b, hb, rfl⟩ := List.mem_map.1 ha
          have h1 := altTxt_size b true
          have h2 := wtA_mem l0 b hb
          unfold cvA
          omega
        · intro t ht
          obtain ⟨b, hb, rfl⟩ := List.mem_map.1 ha
          unfold cvA at ht
          obtain ⟨u, hu, rfl⟩ := List.mem_map.1 ht
          have h1 := wtT_mem b u hu
          have h2 := wtA_mem l0 b hb
          have h3 := txt_parts (cvT u)
          have h4 : (cvT u).f0.size + (cvT u).f1.size = u.f0.size + u.f1.size := rfl
          omega) (by omega) _ hfuel, Option.bind_some, if_pos rfl, Option.bind_some, eqTermSS_refl _ hcl hca _ (by decide), Option.bind_some, if_pos rfl]
end Go.Proofs.YthfohhpjanoimaaDoor.P
end

section
namespace Go.Proofs.YthfohhpjanoimaaDoor.fnExactShowConstraint
open Go.ChangeShapes Go.WideShapes Go.ChangeAt Go.RowKit Go.Proofs.YthfohhpjanoimaaDoorM
set_option linter.unusedVariables false
set_option maxRecDepth 100000
theorem own : ownKnob Tryd.prog.godebug = none := by kernel_rfl
theorem laidOut : laidOutB Tryd.prog = true := by kernel_rfl
def gok69 (b : P.S69) : Prop := b.f0.size ≤ maxLen ∧ b.f1.size ≤ maxLen
theorem opn69 (w : World) : Opn Tryd.prog w 69 P.k69 gok69 :=
  Opn.iso _ (fun y => ⟨y.1, y.2⟩) (fun _ => rfl) (Opn.struct Tryd.underlying69 (OpnF.cons _ rfl (by kernel_rfl) rfl (Opn.string Tryd.underlying9) (OpnF.last _ rfl rfl (by kernel_rfl) (Opn.string Tryd.underlying9))))
theorem env {W : World} (h : W.ShapedOpen Tryd.prog) : EnvW W :=
  ⟨Go.Proofs.cell_of_shapedOpen_int (zero := #[.int .i64 0]) (t := 3) h (of_decide_eq_true (by kernel_rfl)) (by kernel_rfl) rfl (by kernel_rfl) (by kernel_rfl) Tryd.underlying3⟩
theorem contract (H : Type) (enc : TypeId × Value → H) (W : World) (base : Nat) (args : Array Value) (ds gs : List (DataW H)) (before : List MemPlace)
    (hval0 : ∀ (j : Nat) t v, Tryd.f5.params[j]? = some t → args[j]? = some v → Value.okWide Tryd.prog W .any base t v)
    (hW : DataW.Whole enc Tryd.prog Tryd.f5.params.toList Rows.fnExactShowConstraintSpec.vars false W args.toList ds gs before) (hS : W.ShapedOpen Tryd.prog) :
    Calls Tryd.prog 5 args W fun e W' => ∃ v, e = .returned v ∧ Rows.fnExactShowConstraintSpec.post enc Tryd.prog Tryd.f5 false true false false W args v W' := by
  have hval := hval0
  have hW' := hW
  obtain ⟨p, q, hA0, hV, rfl, hfz, hnd⟩ := hW
  have hA : DataW.TrodAll enc Tryd.prog W 0 (fun _ => true) true Tryd.f5.params.toList args.toList ds p := hA0
  rw [Tryd.params5] at hA hval
  obtain ⟨v0, vs0, d0, ds0, p0, q0, hargs, rfl, rfl, h0, r0⟩ := trodAll_cons hA
  obtain ⟨rfl, rfl, rfl⟩ := trodAll_nil r0
  obtain rfl : args = #[v0] := by cases args; simp_all
  obtain ⟨rfl, rfl⟩ := trodVars_none hV
  have k0 := h0
  have lt0 : ∀ x ∈ p0, x.block < W.heap.size := by obtain ⟨m, hm⟩ := k0; exact DataW.trod_lt m _ _ _ hm
  obtain ⟨l0, A0, c0, rfl, hc0, hr0, hl0, hg0⟩ := Opn.argSlice Tryd.underlying29 (by kernel_rfl) (Opn.slice Tryd.underlying48 (by kernel_rfl) (opn69 W)) (hval 0 29 v0 rfl rfl) h0
  clear hA0 hval0
  obtain ⟨k, hk⟩ := P.FnExactShowConstraint_pure l0 (P.fitsT_of l0 hl0 hg0)
  refine (P.laws_FnExactShowConstraint.calls k A0 c0 l0 true W (env hS) hr0 hc0 hk).mono fun e W' ⟨he, bel⟩ => ?_
  subst he
  exact ⟨_, rfl, _, _, _, [], _, [], hW', trodAll_mk1 (shut_bool Tryd.underlying4 _), (trodAll_cons_mk (Below.trod laidOut (by kernel_rfl) (of_decide_eq_true (by kernel_rfl)) k0 bel lt0) trodAll_mk0), rfl, bel.frame _, fun h => by cases h⟩
noncomputable def low : Nat := (World.holding Tryd.prog default ⟨#[], #[], []⟩).heap.size
noncomputable def laidWorld (os : Os) : World :=
  { World.holding Tryd.prog os ⟨#[.cells #[.string ⟨#[118, 97, 108, 117, 101, 32, 111, 117, 116, 32, 111, 102, 32, 114, 97, 110, 103, 101]⟩] 123, .cells #[.string ⟨#[105, 110, 118, 97, 108, 105, 100, 32, 115, 121, 110, 116, 97, 120]⟩] 123], #[], []⟩ with heap := (Array.modify (Array.modify (Array.modify (Array.modify (Array.modify (Array.modify (Array.modify (World.holding Tryd.prog os ⟨#[.cells #[.string ⟨#[118, 97, 108, 117, 101, 32, 111, 117, 116, 32, 111, 102, 32, 114, 97, 110, 103, 101]⟩] 123, .cells #[.string ⟨#[105, 110, 118, 97, 108, 105, 100, 32, 115, 121, 110, 116, 97, 120]⟩] 123], #[], []⟩).heap 6 (fun o => match o with
      | .cells _ t frozen => .cells #[(.int .u8 0), (.int .u8 1), (.int .u8 28), (.int .u8 2), (.int .u8 29), (.int .u8 14), (.int .u8 24), (.int .u8 3), (.int .u8 30), (.int .u8 22), (.int .u8 20), (.int .u8 15), (.int .u8 25), (.int .u8 17), (.int .u8 4), (.int .u8 8), (.int .u8 31), (.int .u8 27), (.int .u8 13), (.int .u8 23), (.int .u8 21), (.int .u8 19), (.int .u8 16), (.int .u8 7), (.int .u8 26), (.int .u8 12), (.int .u8 18), (.int .u8 6), (.int .u8 11), (.int .u8 5), (.int .u8 10), (.int .u8 9)] t frozen
      | o => o)) 7 (fun o => match o with
      | .cells _ t frozen => .cells #[(.int .u8 0), (.int .u8 1), (.int .u8 56), (.int .u8 2), (.int .u8 57), (.int .u8 49), (.int .u8 28), (.int .u8 3), (.int .u8 61), (.int .u8 58), (.int .u8 42), (.int .u8 50), (.int .u8 38), (.int .u8 29), (.int .u8 17), (.int .u8 4), (.int .u8 62), (.int .u8 47), (.int .u8 59), (.int .u8 36), (.int .u8 45), (.int .u8 43), (.int .u8 51), (.int .u8 22), (.int .u8 53), (.int .u8 39), (.int .u8 33), (.int .u8 30), (.int .u8 24), (.int .u8 18), (.int .u8 12), (.int .u8 5), (.int .u8 63), (.int .u8 55), (.int .u8 48), (.int .u8 27), (.int .u8 60), (.int .u8 41), (.int .u8 37), (.int .u8 16), (.int .u8 46), (.int .u8 35), (.int .u8 44), (.int .u8 21), (.int .u8 52), (.int .u8 32), (.int .u8 23), (.int .u8 11), (.int .u8 54), (.int .u8 26), (.int .u8 40), (.int .u8 15), (.int .u8 34), (.int .u8 20), (.int .u8 31), (.int .u8 10), (.int .u8 25), (.int .u8 14), (.int .u8 19), (.int .u8 9), (.int .u8 13), (.int .u8 8), (.int .u8 7), (.int .u8 6)] t frozen
      | o => o)) 5 (fun o => match o with
      | .cells _ t frozen => .cells #[(.int .u64 1), (.int .u64 10), (.int .u64 100), (.int .u64 1000), (.int .u64 10000), (.int .u64 100000), (.int .u64 1000000), (.int .u64 10000000), (.int .u64 100000000), (.int .u64 1000000000), (.int .u64 10000000000), (.int .u64 100000000000), (.int .u64 1000000000000), (.int .u64 10000000000000), (.int .u64 100000000000000), (.int .u64 1000000000000000), (.int .u64 10000000000000000), (.int .u64 100000000000000000), (.int .u64 1000000000000000000), (.int .u64 10000000000000000000)] t frozen
      | o => o)) 2 (fun o => match o with
      | .cells _ t frozen => .cells #[(.int .u8 128), (.int .u8 191), (.int .u8 160), (.int .u8 191), (.int .u8 128), (.int .u8 159), (.int .u8 144), (.int .u8 191), (.int .u8 128), (.int .u8 143), (.int .u8 0), (.int .u8 0), (.int .u8 0), (.int .u8 0), (.int .u8 0), (.int .u8 0), (.int .u8 0), (.int .u8 0), (.int .u8 0), (.int .u8 0), (.int .u8 0), (.int .u8 0), (.int .u8 0), (.int .u8 0), (.int .u8 0), (.int .u8 0), (.int .u8 0), (.int .u8 0), (.int .u8 0), (.int .u8 0), (.int .u8 0), (.int .u8 0)] t frozen
      | o => o)) 4 (fun o => match o with
      | .cells _ t frozen => .cells #[.iface 121 (.pointer (some ⟨low + 0, 0, none⟩))] t frozen
      | o => o)) 3 (fun o => match o with
      | .cells _ t frozen => .cells #[.iface 121 (.pointer (some ⟨low + 1, 0, none⟩))] t frozen
      | o => o)) 1 (fun o => match o with
      | .cells _ t frozen => .cells (Pinned.utf8FirstZ.map fun (n : Nat) => Value.int .u8 n).toArray t frozen
      | o => o)) }
theorem laid_met (os : Os) : laidMet Tryd.prog Rows.fnExactShowConstraintRow.laid ((laidWorld os).forCall (fun _ _ => 0) ⟨#[], #[.slice none 0 0], []⟩).memory :=
  laidMet_of_run' 8 (by kernel_rfl) (by kernel_rfl)
theorem reads (os : Os) {H : Type} (enc : TypeId × Value → H) : ∃ places, DataW.whole enc Tryd.prog ((laidWorld os).forCall (fun _ _ => 0) ⟨#[], #[.slice none 0 0], []⟩).memory Tryd.f5.params.toList Rows.fnExactShowConstraintSpec.vars false (#[.slice none 0 0] : Array Value).toList 8 = some ([.nil], [], places) :=
  ⟨[], by kernel_rfl⟩
theorem lifted (os : Os) (started : os.Started) (H : Type) (enc : TypeId × Value → H) (F : Stop.Interp) :
    ReturnsInHanded {} Tryd.checked os 5 .any ((OpenSpec.ofChange Rows.fnExactShowConstraintSpec).preRow enc Tryd.prog Tryd.f5 Rows.fnExactShowConstraintRow.domain false Rows.fnExactShowConstraintRow.laid) (((OpenSpec.ofChange Rows.fnExactShowConstraintSpec).at F).post enc Tryd.prog Tryd.f5 false true false false) := by
  obtain ⟨places, hx⟩ := reads os enc
  refine returnsInHanded_of_row (C := Tryd.checked) (s := OpenSpec.ofChange Rows.fnExactShowConstraintSpec) own started (by kernel_rfl) Tryd.func5
    (witness_row_at (enc := enc) (C := Tryd.checked) false (laidWorld os) #[.slice none 0 0] rfl (by kernel_rfl) (by kernel_rfl) (by kernel_rfl)
      (OpenSpec.preRow_of_cond 8 hx (by kernel_rfl) (fun k hk => by cases hk) (by kernel_rfl) (laid_met os))) ?_
  intro W base args ds gs before hval hW _ _ _ hL hS _
  exact contract H enc W base args ds gs before hval hW hS
theorem said : Rows.FnExactShowConstraintSaid :=
  OpenClaim.holds_of_cond 5 Tryd.f5 rfl rfl rfl rfl rfl rfl rfl ⟨rfl, rfl, rfl, rfl, rfl⟩ rfl rfl rfl rfl rfl (by kernel_rfl) Tryd.func5 (by kernel_rfl)
    (of_decide_eq_true (by kernel_rfl)) (by unfold Func.isWrapper; first | (rw [if_pos (by decide +kernel)]; kernel_rfl) | (rw [if_neg (by decide +kernel)]; exact ⟨rfl, rfl⟩))
    (fun os started H enc _ F => by rw [OpenClaim.pre_eq_preRow]; exact lifted os started H enc F)
theorem plain (f : FuncId) (fn : Func) (hf : Tryd.pinned.checked.prog.funcNamed "loop.example/g00023/laws.FnExactShowConstraint" = some f) (hfn : Tryd.pinned.checked.prog.funcs[f]? = some fn) :
    true = Tryd.pinned.checked.prog.looks [] ∧ ∀ (j : Nat) t, fn.params[j]? = some t → Tryd.pinned.checked.prog.wantsStandIn t = false := by
  obtain rfl : f = 5 := Option.some.inj ((show Tryd.prog.funcNamed "loop.example/g00023/laws.FnExactShowConstraint" = some 5 by kernel_rfl).symm.trans hf) |>.symm
  obtain rfl : fn = Tryd.f5 := (Option.some.inj (Tryd.func5.symm.trans hfn)).symm
  refine ⟨by kernel_rfl, fun j t ht => ?_⟩
  rw [Tryd.params5] at ht
  have hm := Array.mem_of_getElem? ht
  simp only [List.mem_toArray, List.mem_cons, List.not_mem_nil, or_false] at hm
  rcases hm with rfl
  · exact (show Tryd.prog.wantsStandIn 29 = false by kernel_rfl)
theorem card : Rows.FnExactShowConstraintCardSaid :=
  Claim7.holds_tied_plain_at .later [] _ _ _ _ said (fun _ h => by cases h) (by kernel_rfl) (fun _ h => by cases h) fnExactShowConstraint_row_tie rfl ⟨rfl, rfl⟩ (by kernel_rfl) rfl plain (by kernel_rfl)
#print axioms card
end Go.Proofs.YthfohhpjanoimaaDoor.fnExactShowConstraint
namespace Go.Proofs.YthfohhpjanoimaaDoor
/-- The card, under a short name, for the claim. -/
theorem fnExactShowConstraint_card : Rows.FnExactShowConstraintCardSaid := fnExactShowConstraint.card
end Go.Proofs.YthfohhpjanoimaaDoor
end
