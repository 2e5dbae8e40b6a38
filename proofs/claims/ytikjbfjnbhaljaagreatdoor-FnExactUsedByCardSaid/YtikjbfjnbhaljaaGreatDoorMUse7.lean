/- FnExactUsedBy: the law's row and its card: its walk, the law over lists, and what the arguments read as, joined. Whatever the arguments: the call returns true, and the arguments read as before. Condition: the listed tables hold what the program's text lays (the card ties that). -/
import Derived.Test.YtikjbfjnbhaljaaGreatDoorMUse2
import Derived.Test.YtikjbfjnbhaljaaGreatDoorMUse3
import Derived.Test.YtikjbfjnbhaljaaGreatDoorMUse4
import Derived.Test.YtikjbfjnbhaljaaGreatDoorMUse5
import Derived.Sort.Walk0
import Derived.Lib.IndexMore
import Derived.Test.YtikjbfjnbhaljaaGreatDoorMUse6
import Derived.Test.YtikjbfjnbhaljaaGreatDoorCards
import Derived.Test.YtikjbfjnbhaljaaGreatDoorTie
import Derived.WalkKit
import Derived.ProofKit
import Derived.OpenShut
import Derived.ShutString
import Derived.ChangeOld
import Derived.Below
import Derived.Carry
import Derived.Deep.DeepHandedRow
import Derived.Shelf.Vars
import Derived.LaidLaws

section
set_option linter.unusedVariables false
set_option linter.unusedSimpArgs false
namespace Go.Proofs.YtikjbfjnbhaljaaGreatDoor.P
open Go.RowKit Go.Proofs.YtikjbfjnbhaljaaGreatDoorW.PrintWords
theorem wrap64_id {n : Int} (h1 : -9223372036854775808 ≤ n) (h2 : n ≤ 9223372036854775807) : wrap64 n = n := by
  unfold wrap64; omega
theorem wrap32_id {n : Int} (h1 : -2147483648 ≤ n) (h2 : n ≤ 2147483647) : wrap32 n = n := by
  unfold wrap32; omega
def bs (s : ByteArray) : List UInt8 := s.data.toList
theorem bs_length (s : ByteArray) : (bs s).length = s.size := data_length s
theorem toList_bs (s : ByteArray) : s.toList = bs s := Lib.toList_data s
theorem bs_inj {a b : ByteArray} (h : bs a = bs b) : a = b := by
  cases a; cases b
  simp only [bs] at h
  congr 1
  exact Array.ext' h
theorem bt_nat (s : ByteArray) (i : Nat) (h : i < s.size) : bt s (i : Int) = (((bs s)[i]'(by rw [bs_length]; exact h)).toNat : Int) := by
  unfold bt
  rw [dif_pos (by simpa using h)]
  simp [bs, ByteArray.getElem_eq_getElem_data]
theorem bs_nil {s : ByteArray} : bs s = [] ↔ s.size = 0 := by
  rw [← bs_length]
  exact List.length_eq_zero_iff.symm
theorem bs_extract (s : ByteArray) (a b : Nat) : bs (s.extract a b) = ((bs s).drop a).take (b - a) := Lib.extract_data s a b
theorem bs_upto (s : ByteArray) (b : Nat) : bs (s.extract 0 b) = (bs s).take b := by rw [bs_extract]; simp
end Go.Proofs.YtikjbfjnbhaljaaGreatDoor.P
end

section
set_option linter.unusedVariables false
set_option linter.unusedSimpArgs false
namespace Go.Proofs.YtikjbfjnbhaljaaGreatDoor.P
open Go.RowKit Go.Proofs.YtikjbfjnbhaljaaGreatDoorW.PrintWords
def isL (c : Int) : Bool := decide ((97 ≤ c ∧ c ≤ 122) ∨ (65 ≤ c ∧ c ≤ 90))
def isD (c : Int) : Bool := decide (48 ≤ c ∧ c ≤ 57)
def okC (c : Int) : Bool := isL c || (isD c || decide (c = 45 ∨ c = 95 ∨ c = 46 ∨ c = 43))
theorem impl_letter_eq (c : Int) : impl_letter.f c = some (isL c) := by
  unfold impl_letter.f isL
  repeat' split
  all_goals (congr 1; first | (rw [decide_eq_decide]; omega) | (symm; rw [decide_eq_true_iff]; omega) | (symm; rw [decide_eq_false_iff_not]; omega))
theorem impl_digit_eq (c : Int) : impl_digit.f c = some (isD c) := by
  unfold impl_digit.f isD
  repeat' split
  all_goals (congr 1; first | (rw [decide_eq_decide]; omega) | (symm; rw [decide_eq_true_iff]; omega) | (symm; rw [decide_eq_false_iff_not]; omega))
theorem spec_l1Letter_eq (c : Int) : spec_l1Letter.f c = some (isL c) := by
  unfold spec_l1Letter.f isL
  repeat' split
  all_goals (congr 1; first | (rw [decide_eq_decide]; omega) | (symm; rw [decide_eq_true_iff]; omega) | (symm; rw [decide_eq_false_iff_not]; omega))
theorem spec_l1Digit_eq (c : Int) : spec_l1Digit.f c = some (isD c) := by
  unfold spec_l1Digit.f isD
  repeat' split
  all_goals (congr 1; first | (rw [decide_eq_decide]; omega) | (symm; rw [decide_eq_true_iff]; omega) | (symm; rw [decide_eq_false_iff_not]; omega))
def okFrom (s : ByteArray) : Nat → Nat → Bool
  | 0, _ => true
  | n + 1, i => okC (bt s i) && okFrom s n (i + 1)
def nameOk (s : ByteArray) : Bool := decide (1 ≤ s.size) && decide (s.size ≤ 60) && (bt s 0 != 46) && okFrom s s.size 0
theorem impl_NameOk_l0 (s : ByteArray) (hs : s.size ≤ 60) : ∀ n k i : Nat, n + 1 ≤ k → i + n = s.size → impl_NameOk.l0 k s (s.size : Int) (i : Int) = some (okFrom s n i) := by
  intro n
  induction n with
  | zero =>
    intro k i hk hi
    obtain ⟨k, rfl⟩ : ∃ k', k = k' + 1 := ⟨k - 1, by omega⟩
    rw [impl_NameOk.l0, if_neg (by omega), okFrom]
  | succ n ih =>
    intro k i hk hi
    obtain ⟨k, rfl⟩ : ∃ k', k = k' + 1 := ⟨k - 1, by omega⟩
    have hw : wrap64 ((i : Int) + 1) = ((i + 1 : Nat) : Int) := by rw [wrap64_id (by omega) (by omega)]; omega
    have hr := bt_range s (i : Int)
    have ihn := ih k (i + 1) (by omega) (by omega)
    rw [impl_NameOk.l0, if_pos (by omega), if_pos (by omega), if_pos (by omega), hw, okFrom, wrap32_id (by omega) (by omega)]
    have he : (⟨#[45, 95, 46, 43]⟩ : ByteArray).data.toList = [45, 95, 46, 43] := rfl
    have hcr : strings_ContainsRune.f (⟨#[45, 95, 46, 43]⟩ : ByteArray) (bt s (i : Int)) = some (decide (bt s (i : Int) = 45 ∨ bt s (i : Int) = 95 ∨ bt s (i : Int) = 46 ∨ bt s (i : Int) = 43)) := by
      unfold strings_ContainsRune.f
      rw [if_pos he, if_pos (by omega), if_pos (by omega)]
    rw [impl_letter_eq, impl_digit_eq, hcr, ihn, okC]
    simp only [Option.bind_some]
    cases isL (bt s (i : Int)) <;> cases isD (bt s (i : Int)) <;> cases decide (bt s (i : Int) = 45 ∨ bt s (i : Int) = 95 ∨ bt s (i : Int) = 46 ∨ bt s (i : Int) = 43) <;> simp
theorem impl_NameOk_eq (s : ByteArray) (k : Nat) (hk : 63 ≤ k) : impl_NameOk.f k s = some (nameOk s) := by
  obtain ⟨k, rfl⟩ : ∃ k', k = k' + 1 := ⟨k - 1, by omega⟩
  unfold impl_NameOk.f nameOk
  by_cases h1 : s.size < 1
  · rw [if_pos (by omega), impl_NameOk.j0]
    simp; omega
  · rw [if_neg (by omega)]
    by_cases h2 : s.size > 60
    · rw [if_pos (by omega), impl_NameOk.j0]
      simp; omega
    · rw [if_neg (by omega), if_pos (by omega), impl_NameOk.j0]
      have := impl_NameOk_l0 s (by omega) s.size k 0 (by omega) (by omega)
      rw [show ((0 : Nat) : Int) = 0 from rfl] at this
      rw [this]
      by_cases h3 : bt s 0 = 46
      · simp [h3]
      · have h4 : (bt s 0 == 46) = false := by simpa using h3
        simp [h3, h4, show 1 ≤ s.size by omega, show s.size ≤ 60 by omega]
theorem spec_NameOk_l0 (s : ByteArray) (hs : s.size ≤ 60) : ∀ n k i : Nat, n + 1 ≤ k → i + n = s.size → spec_NameOk.l0 k s (i : Int) = some (okFrom s n i) := by
  intro n
  induction n with
  | zero =>
    intro k i hk hi
    obtain ⟨k, rfl⟩ : ∃ k', k = k' + 1 := ⟨k - 1, by omega⟩
    rw [spec_NameOk.l0, if_neg (by omega), okFrom]
  | succ n ih =>
    intro k i hk hi
    obtain ⟨k, rfl⟩ : ∃ k', k = k' + 1 := ⟨k - 1, by omega⟩
    have hw : wrap64 ((i : Int) + 1) = ((i + 1 : Nat) : Int) := by rw [wrap64_id (by omega) (by omega)]; omega
    have hr := bt_range s (i : Int)
    have ihn := ih k (i + 1) (by omega) (by omega)
    rw [spec_NameOk.l0, if_pos (by omega), if_pos (by omega), hw, okFrom]
    rw [spec_l1Letter_eq, spec_l1Digit_eq, ihn, okC]
    simp only [Option.bind_some]
    generalize bt s (i : Int) = c
    cases isL c <;> cases isD c <;> by_cases h7 : c = 45 <;> by_cases h8 : c = 95 <;> by_cases h9 : c = 46 <;> by_cases h10 : c = 43 <;> simp [h7, h8, h9, h10]
theorem spec_NameOk_eq (s : ByteArray) (k : Nat) (hk : 63 ≤ k) : spec_NameOk.f k s = some (nameOk s) := by
  obtain ⟨k, rfl⟩ : ∃ k', k = k' + 1 := ⟨k - 1, by omega⟩
  unfold spec_NameOk.f nameOk
  by_cases h1 : s.size < 1
  · rw [if_pos (by omega), spec_NameOk.j0]
    simp; omega
  · rw [if_neg (by omega)]
    by_cases h2 : s.size > 60
    · rw [if_pos (by omega), spec_NameOk.j0]
      simp; omega
    · rw [if_neg (by omega), if_pos (by omega), spec_NameOk.j0]
      have := spec_NameOk_l0 s (by omega) s.size k 0 (by omega) (by omega)
      rw [show ((0 : Nat) : Int) = 0 from rfl] at this
      rw [this]
      by_cases h3 : bt s 0 = 46
      · simp [h3]
      · have h4 : (bt s 0 == 46) = false := by simpa using h3
        simp [h3, h4, show 1 ≤ s.size by omega, show s.size ≤ 60 by omega]
end Go.Proofs.YtikjbfjnbhaljaaGreatDoor.P
end

section
set_option linter.unusedVariables false
set_option linter.unusedSimpArgs false
namespace Go.Proofs.YtikjbfjnbhaljaaGreatDoor.P
open Go.RowKit Go.Proofs.YtikjbfjnbhaljaaGreatDoorW.PrintWords
def pcs : List UInt8 → List UInt8 → List (List UInt8)
  | cur, [] => [cur]
  | cur, c :: r => if c = 47 then cur :: pcs [] r else pcs (cur ++ [c]) r
theorem index_cons (b : UInt8) (l : List UInt8) : Lib.index (b :: l) [47] = if b = 47 then 0 else if Lib.index l [47] = -1 then -1 else Lib.index l [47] + 1 := by
  rw [Lib.index]
  by_cases hb : b = 47
  · subst hb; simp [List.isPrefixOf]
  · have : ((47 : UInt8) == b) = false := by simpa using fun e => hb e.symm
    simp [List.isPrefixOf, this, hb]
theorem pcs_miss : ∀ (l cur : List UInt8), Lib.index l [47] = -1 → pcs cur l = [cur ++ l]
  | [], cur, _ => by simp [pcs]
  | b :: l, cur, h => by
    rw [index_cons] at h
    by_cases hb : b = 47
    · rw [if_pos hb] at h; omega
    · rw [if_neg hb] at h
      by_cases hi : Lib.index l [47] = -1
      · rw [pcs, if_neg hb, pcs_miss l _ hi]; simp
      · rw [if_neg hi] at h
        have := Lib.index_ge l [47]
        omega
theorem pcs_hit : ∀ (l cur : List UInt8) (i : Nat), Lib.index l [47] = i → pcs cur l = (cur ++ l.take i) :: pcs [] (l.drop (i + 1))
  | [], cur, i, h => by simp [Lib.index] at h
  | b :: l, cur, i, h => by
    rw [index_cons] at h
    by_cases hb : b = 47
    · rw [if_pos hb] at h
      obtain rfl : i = 0 := by omega
      rw [pcs, if_pos hb]
      simp
    · rw [if_neg hb] at h
      by_cases hi : Lib.index l [47] = -1
      · rw [if_pos hi] at h; omega
      · rw [if_neg hi] at h
        have := Lib.index_ge l [47]
        obtain ⟨j, rfl⟩ : ∃ j, i = j + 1 := ⟨i - 1, by omega⟩
        rw [pcs, if_neg hb, pcs_hit l _ j (by omega)]
        simp
theorem splitK_pcs : ∀ (k : Nat) (l : List UInt8), Lib.count l [47] = k → Lib.splitK [47] 0 k l = pcs [] l
  | 0, l, h => by
    have hi : Lib.index l [47] = -1 := by
      rcases Lib.index_spec l [47] with ⟨h1, _⟩ | ⟨i, h1, _⟩
      · exact h1
      · rw [Lib.count_hit (by simp) h1] at h; omega
    rw [pcs_miss l [] hi, Lib.splitK]; rfl
  | k + 1, l, h => by
    rcases Lib.index_spec l [47] with ⟨h1, _⟩ | ⟨i, h1, _⟩
    · rw [Lib.count_miss h1] at h; omega
    · have h2 := Lib.count_hit (s := l) (sub := [47]) (by simp) h1
      rw [Lib.splitK, if_neg (by simp [h1]), pcs_hit l [] i h1, h1]
      simp only [Int.toNat_natCast, Nat.add_zero, List.nil_append]
      rw [splitK_pcs k _ (by simp at h2 ⊢; omega)]
      rfl
def nameOkL (l : List UInt8) : Bool := nameOk ⟨l.toArray⟩
theorem nameOkL_bs (s : ByteArray) : nameOkL (bs s) = nameOk s := by
  unfold nameOkL bs
  simp
def pathOk (s : ByteArray) : Bool := decide ((pcs [] (bs s)).length ≤ 8) && (pcs [] (bs s)).all nameOkL
theorem impl_pathOk_l0 (xs : List ByteArray) (hx : xs.length ≤ 8) : ∀ n k i : Nat, n + 64 ≤ k → i + n = xs.length → impl_pathOk.l0 k xs (xs.length : Int) (i : Int) = some ((xs.drop i).all nameOk) := by
  intro n
  induction n with
  | zero =>
    intro k i hk hi
    obtain ⟨k, rfl⟩ : ∃ k', k = k' + 1 := ⟨k - 1, by omega⟩
    rw [impl_pathOk.l0, if_neg (by omega), List.drop_eq_nil_of_le (by omega)]; rfl
  | succ n ih =>
    intro k i hk hi
    obtain ⟨k, rfl⟩ : ∃ k', k = k' + 1 := ⟨k - 1, by omega⟩
    have hw : wrap64 ((i : Int) + 1) = ((i + 1 : Nat) : Int) := by rw [wrap64_id (by omega) (by omega)]; omega
    have hl : i < xs.length := by omega
    rw [impl_pathOk.l0, if_pos (by omega), if_pos (by omega), if_pos (by omega), hw, impl_NameOk_eq _ _ (by omega), ih k (i + 1) (by omega) (by omega), List.drop_eq_getElem_cons hl]
    have hr : rdOf ByteArray.empty xs (i : Int) = xs[i] := by simp [rdOf, List.getD_eq_getElem?_getD, List.getElem?_eq_getElem hl]
    rw [hr, Option.bind_some, List.all_cons]
    cases nameOk xs[i] <;> simp
theorem impl_pathOk_eq (s : ByteArray) (hs : s.size < 1073741824) (k : Nat) (hk : 80 ≤ k) : impl_pathOk.f k s = some (pathOk s) := by
  unfold impl_pathOk.f strings_Split.f
  have h1 : (⟨#[47]⟩ : ByteArray).size = 1 := rfl
  rw [if_pos (by omega), if_pos (by rw [h1]; omega), Option.bind_some]
  have hm := Lib.splitB_data (⟨#[47]⟩ : ByteArray) 0 (Lib.countB s (⟨#[47]⟩ : ByteArray)) s
  have hk2 : Lib.splitK [47] 0 (Lib.countB s (⟨#[47]⟩ : ByteArray)) s.data.toList = pcs [] (bs s) := splitK_pcs _ _ rfl
  change List.map bs _ = Lib.splitK [47] 0 _ _ at hm
  rw [hk2] at hm
  generalize Lib.splitB (⟨#[47]⟩ : ByteArray) 0 (Lib.countB s (⟨#[47]⟩ : ByteArray)) s = xs at hm ⊢
  unfold pathOk
  rw [← hm]
  have ha : (xs.map bs).all nameOkL = xs.all nameOk := by
    simp only [List.all_map, Function.comp_def, nameOkL_bs]
  rw [ha, List.length_map]
  by_cases h8 : xs.length ≤ 8
  · rw [if_neg (by omega)]
    have := impl_pathOk_l0 xs h8 xs.length k 0 (by omega) (by omega)
    rw [show ((0 : Nat) : Int) = 0 from rfl] at this
    rw [this]
    simp [h8]
  · rw [if_pos (by omega)]
    simp [h8]
theorem spec_l10Names_l0 (s : ByteArray) (hs : s.size < 1073741824) : ∀ (n k fr i : Nat) (out : List ByteArray), 2 * n + 70 ≤ k → i + n = s.size → fr ≤ i → out.length ≤ 8 →
    ∃ o, spec_l10Names.l0 k s out (fr : Int) (i : Int) = some (o, decide (out.length + (pcs (bs (s.extract fr i)) ((bs s).drop i)).length ≤ 8) && (pcs (bs (s.extract fr i)) ((bs s).drop i)).all nameOkL) := by
  intro n
  induction n with
  | zero =>
    intro k fr i out hk hi hf ho
    obtain ⟨k, rfl⟩ : ∃ k', k = k' + 3 := ⟨k - 3, by omega⟩
    have hw : wrap64 ((i : Int) + 1) = ((i + 1 : Nat) : Int) := by rw [wrap64_id (by omega) (by omega)]; omega
    have hd : (bs s).drop i = [] := List.drop_eq_nil_of_le (by rw [bs_length]; omega)
    rw [spec_l10Names.l0, if_pos (by omega), if_pos (by omega), spec_l10Names.j1, if_pos rfl, if_pos (by omega), if_pos (by omega), if_pos (by omega), spec_NameOk_eq _ _ (by omega), hd, pcs, Option.bind_some, hw]
    simp only [Int.toNat_natCast]
    rw [List.all_cons, nameOkL_bs]
    cases hn : nameOk (s.extract fr i) with
    | false => exact ⟨out, by simp⟩
    | true =>
      rw [if_pos rfl]
      by_cases h8 : out.length = 8
      · rw [if_pos (by omega)]
        exact ⟨out, by simp; omega⟩
      · rw [if_neg (by omega), if_pos (by omega)]
        rw [spec_l10Names.l0, if_neg (by omega)]
        exact ⟨out ++ [s.extract fr i], by simp; omega⟩
  | succ n ih =>
    intro k fr i out hk hi hf ho
    obtain ⟨k, rfl⟩ : ∃ k', k = k' + 2 := ⟨k - 2, by omega⟩
    have hw : wrap64 ((i : Int) + 1) = ((i + 1 : Nat) : Int) := by rw [wrap64_id (by omega) (by omega)]; omega
    have hl : i < (bs s).length := by rw [bs_length]; omega
    have hd : (bs s).drop i = (bs s)[i] :: (bs s).drop (i + 1) := List.drop_eq_getElem_cons hl
    have hb := bt_nat s i (by omega)
    rw [spec_l10Names.l0, if_pos (by omega), if_neg (by omega), if_pos (by omega), if_pos (by omega), spec_l10Names.j1, hd, pcs, hw, hb]
    by_cases hc : (bs s)[i] = 47
    · have hc2 : ((((bs s)[i].toNat : Int) == 47)) = true := by rw [hc]; rfl
      rw [hc2, if_pos rfl, if_pos hc, if_pos (by omega), if_pos (by omega), if_pos (by omega), spec_NameOk_eq _ _ (by omega), Option.bind_some]
      simp only [Int.toNat_natCast]
      rw [List.all_cons, nameOkL_bs]
      cases hn : nameOk (s.extract fr i) with
      | false => exact ⟨out, by simp⟩
      | true =>
        rw [if_pos rfl]
        have hp : 1 ≤ (pcs [] ((bs s).drop (i + 1))).length := by
          generalize (bs s).drop (i + 1) = l
          generalize ([] : List UInt8) = c
          induction l generalizing c with
          | nil => simp [pcs]
          | cons b l ih => rw [pcs]; split <;> simp_all
        by_cases h8 : out.length = 8
        · rw [if_pos (by omega)]
          exact ⟨out, by simp; omega⟩
        · rw [if_neg (by omega), if_pos (by omega)]
          obtain ⟨o, h⟩ := ih k (i + 1) (i + 1) (out ++ [s.extract fr i]) (by omega) (by omega) (by omega) (by simp; omega)
          have he : bs (s.extract (i + 1) (i + 1)) = [] := by rw [bs_extract]; simp
          rw [he] at h
          refine ⟨o, ?_⟩
          rw [h]
          simp only [List.length_append, List.length_cons, List.length_nil, Bool.true_and]
          congr 3
          apply decide_eq_decide.2
          omega
    · have hc2 : ((((bs s)[i].toNat : Int) == 47)) = false := by
        rw [beq_eq_false_iff_ne]
        intro h
        exact hc (UInt8.toNat_inj.mp (by show _ = 47; omega))
      rw [hc2, if_neg (by decide), if_neg hc]
      obtain ⟨o, h⟩ := ih k fr (i + 1) out (by omega) (by omega) (by omega) ho
      have he : bs (s.extract fr (i + 1)) = bs (s.extract fr i) ++ [(bs s)[i]] := by
        rw [bs_extract, bs_extract, show i + 1 - fr = (i - fr) + 1 by omega, List.take_add_one]
        congr 1
        rw [List.getElem?_drop, show fr + (i - fr) = i by omega, List.getElem?_eq_getElem hl]
        rfl
      rw [he] at h
      exact ⟨o, h⟩
theorem spec_l10Names_eq (s : ByteArray) (hs : s.size < 1073741824) (k : Nat) (hk : 2 * s.size + 70 ≤ k) : ∃ o, spec_l10Names.f k s = some (o, pathOk s) := by
  obtain ⟨o, h⟩ := spec_l10Names_l0 s hs s.size k 0 0 [] hk (by omega) (by omega) (by simp)
  have he : bs (s.extract 0 0) = [] := by rw [bs_extract]; simp
  rw [he] at h
  refine ⟨o, ?_⟩
  unfold spec_l10Names.f pathOk
  simpa using h
def upOf (s : ByteArray) : ByteArray × Bool := if Lib.lastIndexByte s 47 < 0 then (⟨#[]⟩, false) else (s.extract 0 (Lib.lastIndexByte s 47).toNat, true)
theorem impl_upper_eq (s : ByteArray) (hs : s.size < 1073741824) : impl_upper.f s = some (upOf s) := by
  unfold impl_upper.f strings_LastIndexByte.f upOf
  rw [if_pos (by omega), Option.bind_some]
  rcases Lib.lastIndexByte_spec s 47 with ⟨h, _⟩ | ⟨i, hi, h, _⟩
  · rw [h, if_pos (by omega), if_pos (by omega)]
  · rw [h, if_neg (by omega), if_pos (by omega), if_pos (by omega), if_neg (by omega)]
theorem spec_l10Up_l0 (s : ByteArray) (hs : s.size < 1073741824) : ∀ (n k : Nat), n + 1 ≤ k → n ≤ s.size →
    spec_l10Up.l0 k s ((n : Int) - 1) = some (if Lib.lastIdx s 47 n < 0 then ⟨#[]⟩ else s.extract 0 (Lib.lastIdx s 47 n).toNat) := by
  intro n
  induction n with
  | zero =>
    intro k hk hn
    obtain ⟨k, rfl⟩ : ∃ k', k = k' + 1 := ⟨k - 1, by omega⟩
    rw [spec_l10Up.l0, if_neg (by omega), Lib.lastIdx, if_pos (by omega)]
  | succ n ih =>
    intro k hk hn
    obtain ⟨k, rfl⟩ : ∃ k', k = k' + 1 := ⟨k - 1, by omega⟩
    have e1 : ((n + 1 : Nat) : Int) - 1 = (n : Int) := by omega
    have hw : wrap64 ((n : Int) - 1) = (n : Int) - 1 := wrap64_id (by omega) (by omega)
    have hb : bt s (n : Int) = ((s.data[n]!).toNat : Int) := by
      rw [bt_nat s n (by omega)]
      have h2 : n < s.data.size := by show n < s.size; omega
      rw [getElem!_pos s.data n h2]
      simp [bs]
    rw [e1, spec_l10Up.l0, if_pos (by omega), if_pos (by omega), if_pos (by omega), hw, hb]
    by_cases hc : ((s.data[n]!).toNat : Int) = 47
    · rw [Lib.lastIdx_hit s 47 n hc, if_pos hc, if_pos (by omega), if_neg (by omega)]
    · rw [Lib.lastIdx_miss s 47 n hc, if_neg hc, ih k (by omega) (by omega)]
theorem spec_l10Up_eq (s : ByteArray) (hs : s.size < 1073741824) (k : Nat) (hk : s.size + 1 ≤ k) : spec_l10Up.f k s = some (upOf s).1 := by
  unfold spec_l10Up.f upOf
  rw [wrap64_id (by omega) (by omega), spec_l10Up_l0 s hs s.size k hk (Nat.le_refl _)]
  show some (if Lib.lastIndexByte s 47 < 0 then _ else _) = _
  split <;> rfl
theorem upOf_ok (s : ByteArray) (hp : pathOk s = true) (hu : (upOf s).2 = true) : ∃ i : Nat, 0 < i ∧ i < s.size ∧ (upOf s).1 = s.extract 0 i := by
  unfold upOf at hu ⊢
  rcases Lib.lastIndexByte_spec s 47 with ⟨h, _⟩ | ⟨i, hi, h, hc, _⟩
  · rw [h, if_pos (by omega)] at hu
    cases hu
  · rw [h, if_neg (by omega)]
    refine ⟨i, ?_, hi, by simp⟩
    rcases Nat.eq_zero_or_pos i with h0 | h0
    · subst h0
      exfalso
      have hl : 0 < (bs s).length := by rw [bs_length]; omega
      have hd : bs s = (bs s)[0] :: (bs s).drop 1 := by
        have := List.drop_eq_getElem_cons hl
        simpa using this
      have h47 : (bs s)[0] = 47 := by
        have h2 : 0 < s.data.size := hi
        have h3 : s.data[0]! = (bs s)[0] := by rw [getElem!_pos s.data 0 h2]; simp [bs]
        rw [h3] at hc
        exact UInt8.toNat_inj.mp (by show _ = 47; omega)
      unfold pathOk at hp
      rw [hd, h47, pcs, if_pos rfl] at hp
      simp [nameOkL, nameOk] at hp
      exact absurd hp.2.1.1.1.1 (by decide)
    · exact h0
theorem upOf_no (s : ByteArray) (hu : (upOf s).2 = false) : (upOf s).1 = ⟨#[]⟩ := by
  unfold upOf at hu ⊢
  split
  · rfl
  · rename_i h
    rw [if_neg h] at hu
    cases hu
theorem less_begin : ∀ (l : List UInt8) (i : Nat), i < l.length → Op.bytesLess (l.take i) l = true
  | [], i, h => by simp at h
  | b :: l, 0, _ => by simp [Op.bytesLess]
  | b :: l, i + 1, h => by
    rw [List.take_succ_cons, Op.bytesLess, less_begin l i (by simpa using h)]
    simp
end Go.Proofs.YtikjbfjnbhaljaaGreatDoor.P
end

section
set_option linter.unusedVariables false
set_option linter.unusedSimpArgs false
namespace Go.Proofs.YtikjbfjnbhaljaaGreatDoor.P
open Go.RowKit Go.Proofs.YtikjbfjnbhaljaaGreatDoorW.PrintWords Go.Proofs.YtikjbfjnbhaljaaGreatDoorM
def less (a b : ByteArray) : Bool := Op.bytesLess (bs a) (bs b)
theorem bl_less (a b : ByteArray) : Op.bytesLess a.toList b.toList = less a b := by rw [toList_bs, toList_bs]; rfl
theorem bl_irrefl : ∀ x : List UInt8, Op.bytesLess x x = false
  | [] => by simp [Op.bytesLess]
  | a :: x => by
    rw [Op.bytesLess, bl_irrefl x]
    have : ¬ a < a := fun h => by have := UInt8.lt_iff_toNat_lt.mp h; omega
    simp [this]
theorem bl_trans : ∀ x y z : List UInt8, Op.bytesLess x y = true → Op.bytesLess y z = true → Op.bytesLess x z = true
  | _, [], _, h, _ => by simp [Op.bytesLess] at h
  | _, _ :: _, [], _, h => by simp [Op.bytesLess] at h
  | [], _ :: _, _ :: _, _, _ => by simp [Op.bytesLess]
  | a :: x, b :: y, c :: z, h1, h2 => by
    rw [Op.bytesLess, Bool.or_eq_true, Bool.and_eq_true, decide_eq_true_iff, beq_iff_eq] at h1 h2 ⊢
    rcases h1 with h1 | ⟨rfl, h1⟩
    · rcases h2 with h2 | ⟨rfl, h2⟩
      · exact .inl (UInt8.lt_iff_toNat_lt.mpr (by have := UInt8.lt_iff_toNat_lt.mp h1; have := UInt8.lt_iff_toNat_lt.mp h2; omega))
      · exact .inl h1
    · rcases h2 with h2 | ⟨rfl, h2⟩
      · exact .inl h2
      · exact .inr ⟨rfl, bl_trans x y z h1 h2⟩
theorem less_irrefl (a : ByteArray) : less a a = false := bl_irrefl _
theorem less_trans {a b c : ByteArray} (h1 : less a b = true) (h2 : less b c = true) : less a c = true := bl_trans _ _ _ h1 h2
theorem less_tri {a b : ByteArray} (h1 : less a b = false) (h2 : less b a = false) : a = b := by
  have := bytesLess_turn (bs a) (bs b)
  unfold less at h1 h2
  rw [h1, h2] at this
  simp at this
  exact bs_inj this
theorem less_ne {a b : ByteArray} (h : less a b = true) : a ≠ b := fun e => by subst e; rw [less_irrefl] at h; cases h
theorem less_asymm {a b : ByteArray} (h : less a b = true) : less b a = false := by
  cases h2 : less b a with
  | false => rfl
  | true => rw [← less_irrefl a]; exact (less_trans h h2).symm
def gd (t : List S57) (i : Nat) : S57 := t.getD i z57
theorem rd_gd (t : List S57) (i : Nat) : rd_T57 t (i : Int) = gd t i := by simp [rd_T57, gd]
theorem gd_get (t : List S57) (i : Nat) (h : i < t.length) : gd t i = t[i] := by simp [gd, List.getD_eq_getElem?_getD, List.getElem?_eq_getElem h]
def entryOk (e : S57) : Bool := pathOk e.f0 && (decide (e.f2.size ≤ 20000) && (if e.f1 = 1 then decide (e.f2.size = 0) && !e.f3 else if e.f1 = 2 then true else if e.f1 = 3 then !decide (e.f2.size = 0) && !e.f3 else false))
def risen (t : List S57) (n : Nat) : Prop := ∀ j, 0 < j → j < n → less (gd t (j - 1)).f0 (gd t j).f0 = true
theorem risen_lt {t : List S57} {n : Nat} (h : risen t n) : ∀ d i, i + d + 1 < n → less (gd t i).f0 (gd t (i + d + 1)).f0 = true
  | 0, i, hi => by have := h (i + 1) (by omega) (by omega); simpa using this
  | d + 1, i, hi => less_trans (risen_lt h d i (by omega)) (by have h2 := h (i + d + 1 + 1) (by omega) (by omega); rw [Nat.add_sub_cancel] at h2; exact h2)
theorem risen_less {t : List S57} {n i j : Nat} (h : risen t n) (hij : i < j) (hj : j < n) : less (gd t i).f0 (gd t j).f0 = true := by
  have := risen_lt h (j - i - 1) i (by omega)
  rwa [show i + (j - i - 1) + 1 = j by omega] at this
theorem risen_inj {t : List S57} {n i j : Nat} (h : risen t n) (hi : i < n) (hj : j < n) (he : (gd t i).f0 = (gd t j).f0) : i = j := by
  rcases Nat.lt_trichotomy i j with hl | hl | hl
  · exact absurd he (less_ne (risen_less h hl hj))
  · exact hl
  · exact absurd he.symm (less_ne (risen_less h hl hi))
theorem spec_l10Find_l0 (t : List S57) (p : ByteArray) (ht : t.length < 1073741824) (hr : risen t t.length) : ∀ (n k lo hi : Nat), n + 2 ≤ k → hi - lo ≤ n → lo ≤ hi → hi ≤ t.length →
    (∀ i, i < lo → less (gd t i).f0 p = true) → (∀ i, hi ≤ i → i < t.length → less (gd t i).f0 p = false) →
    ∃ r, spec_l10Find.l0 k t p (lo : Int) (hi : Int) = some r ∧ ((∃ i : Nat, r = i ∧ i < t.length ∧ (gd t i).f0 = p) ∨ (r = -1 ∧ ∀ i, i < t.length → (gd t i).f0 ≠ p)) := by
  intro n
  induction n with
  | zero =>
    intro k lo hi hk hn hl hh h1 h2
    obtain ⟨k, rfl⟩ : ∃ k', k = k' + 1 := ⟨k - 1, by omega⟩
    obtain rfl : lo = hi := by omega
    rw [spec_l10Find.l0, if_neg (by omega), rd_gd]
    by_cases hlt : lo < t.length
    · rw [if_pos (by omega), if_pos (by omega)]
      by_cases he : (gd t lo).f0 = p
      · rw [if_pos (by rw [he])]
        exact ⟨_, rfl, .inl ⟨lo, rfl, hlt, he⟩⟩
      · rw [if_neg (fun h => he (bs_inj (by rw [← toList_bs, ← toList_bs]; exact h)))]
        refine ⟨_, rfl, .inr ⟨rfl, fun i hi e => ?_⟩⟩
        rcases Nat.lt_trichotomy i lo with hc | hc | hc
        · exact absurd e (less_ne (h1 i hc))
        · subst hc; exact he e
        · have h3 := risen_less hr hc hi
          rw [e] at h3
          rw [h2 lo (Nat.le_refl _) hlt] at h3
          cases h3
    · rw [if_neg (by omega)]
      exact ⟨_, rfl, .inr ⟨rfl, fun i hi e => absurd e (less_ne (h1 i (by omega)))⟩⟩
  | succ n ih =>
    intro k lo hi hk hn hl hh h1 h2
    by_cases hlo : lo = hi
    · exact ih k lo hi (by omega) (by omega) hl hh h1 h2
    obtain ⟨k, rfl⟩ : ∃ k', k = k' + 1 := ⟨k - 1, by omega⟩
    have hm : wrap64 (Int.tdiv (wrap64 ((lo : Int) + (hi : Int))) 2) = (((lo + hi) / 2 : Nat) : Int) := by
      rw [wrap64_id (n := (lo : Int) + (hi : Int)) (by omega) (by omega), Int.tdiv_eq_ediv_of_nonneg (by omega), wrap64_id (by omega) (by omega)]
      omega
    have hw : wrap64 ((((lo + hi) / 2 : Nat) : Int) + 1) = (((lo + hi) / 2 + 1 : Nat) : Int) := by rw [wrap64_id (by omega) (by omega)]; omega
    rw [spec_l10Find.l0, if_pos (by omega), hm, if_pos (by omega), if_pos (by omega), rd_gd, hw, bl_less]
    by_cases hc : less (gd t ((lo + hi) / 2)).f0 p = true
    · rw [if_pos hc]
      refine ih k _ hi (by omega) (by omega) (by omega) hh (fun i hi2 => ?_) h2
      rcases Nat.lt_or_ge i ((lo + hi) / 2) with h3 | h3
      · exact less_trans (risen_less hr h3 (by omega)) hc
      · obtain rfl : i = (lo + hi) / 2 := by omega
        exact hc
    · rw [if_neg hc]
      refine ih k lo _ (by omega) (by omega) (by omega) (by omega) h1 (fun i hi2 hi3 => ?_)
      have hc2 : less (gd t ((lo + hi) / 2)).f0 p = false := by simpa using hc
      rcases Nat.lt_or_ge ((lo + hi) / 2) i with h3 | h3
      · cases h4 : less (gd t i).f0 p with
        | false => rfl
        | true => rw [← hc2]; exact (less_trans (risen_less hr h3 hi3) h4).symm
      · obtain rfl : i = (lo + hi) / 2 := by omega
        exact hc2
theorem spec_l10Find_eq (t : List S57) (p : ByteArray) (ht : t.length < 1073741824) (hr : risen t t.length) (k : Nat) (hk : t.length + 2 ≤ k) :
    ∃ r, spec_l10Find.f k t p = some r ∧ ((∃ i : Nat, r = i ∧ i < t.length ∧ (gd t i).f0 = p) ∨ (r = -1 ∧ ∀ i, i < t.length → (gd t i).f0 ≠ p)) :=
  spec_l10Find_l0 t p ht hr t.length k 0 t.length hk (by omega) (by omega) (by omega) (fun i h => absurd h (Nat.not_lt_zero _)) (fun i h1 h2 => by omega)
def dirAt (t : List S57) (n : Nat) (p : ByteArray) : Prop := ∃ i, i < n ∧ (gd t i).f0 = p ∧ (gd t i).f1 = 1
theorem gd_take (t : List S57) (n i : Nat) (h : i < n) : gd (t.take n) i = gd t i := by
  unfold gd
  rw [List.getD_eq_getElem?_getD, List.getD_eq_getElem?_getD, List.getElem?_take_of_lt h]
theorem spec_l10Dir_eq (t : List S57) (n : Nat) (p : ByteArray) (hn : n ≤ t.length) (ht : t.length < 1073741824) (hr : risen t n) (k : Nat) (hk : t.length + 2 ≤ k) :
    ∃ b, spec_l10Dir.f k (t.take n) p = some b ∧ (b = true ↔ dirAt t n p) := by
  have hl : (t.take n).length = n := by rw [List.length_take]; omega
  have hr2 : risen (t.take n) (t.take n).length := fun j h1 h2 => by
    rw [hl] at h2
    rw [gd_take t n _ (by omega), gd_take t n _ h2]
    exact hr j h1 h2
  obtain ⟨r, hf, hc⟩ := spec_l10Find_eq (t.take n) p (by omega) hr2 k (by omega)
  unfold spec_l10Dir.f
  rw [hf, Option.bind_some]
  rcases hc with ⟨i, rfl, hi, he⟩ | ⟨rfl, hno⟩
  · rw [if_pos (by omega), if_pos (by omega), if_pos (by omega), rd_gd]
    rw [hl] at hi
    rw [gd_take t n i hi] at he ⊢
    refine ⟨_, rfl, ?_⟩
    rw [beq_iff_eq]
    constructor
    · exact fun h => ⟨i, hi, he, h⟩
    · rintro ⟨j, hj, he2, h1⟩
      obtain rfl := risen_inj hr hi hj (he.trans he2.symm)
      exact h1
  · rw [if_neg (by omega)]
    refine ⟨false, rfl, ⟨fun h => (by cases h), ?_⟩⟩
    rintro ⟨j, hj, he2, _⟩
    exact absurd (by rw [gd_take t n j hj]; exact he2) (hno j (by omega))
theorem toList_nil (s : ByteArray) : s.toList = ([] : List UInt8) ↔ s.size = 0 := by
  rw [toList_bs]
  exact bs_nil
theorem spec_l10EntryOk_eq (e : S57) (hs : e.f0.size < 1073741824) (k : Nat) (hk : 2 * e.f0.size + 71 ≤ k) : spec_l10EntryOk.f k e.f0 e.f1 e.f2 e.f3 = some (entryOk e) := by
  obtain ⟨o, h⟩ := spec_l10Names_eq e.f0 hs k (by omega)
  obtain ⟨k, rfl⟩ : ∃ k', k = k' + 1 := ⟨k - 1, by omega⟩
  unfold spec_l10EntryOk.f entryOk
  rw [h, Option.bind_some]
  show (if pathOk e.f0 = true then _ else _) = _
  cases pathOk e.f0 with
  | false => rw [if_neg (by decide), spec_l10EntryOk.j0]; rfl
  | true =>
    rw [if_pos rfl, spec_l10EntryOk.j0]
    simp only [toList_nil]
    by_cases h1 : e.f2.size > 20000
    · rw [if_pos (by simp; omega)]
      simp; omega
    · rw [if_neg (by simp; omega)]
      have h2 : e.f2.size ≤ 20000 := by omega
      by_cases h3 : e.f1 = 1
      · by_cases h4 : e.f2.size = 0 <;> simp [h2, h3, h4]
      · by_cases h5 : e.f1 = 2
        · simp [h2, h3, h5]
        · by_cases h6 : e.f1 = 3
          · by_cases h4 : e.f2.size = 0 <;> simp [h2, h3, h5, h6, h4]
          · simp [h2, h3, h5, h6]
def goodAt (t : List S57) (i : Nat) : Prop :=
  entryOk (gd t i) = true ∧ (0 < i → less (gd t (i - 1)).f0 (gd t i).f0 = true) ∧ ((upOf (gd t i).f0).2 = true → dirAt t i (upOf (gd t i).f0).1)
def treeOk (t : List S57) : Prop := t.length ≤ 500 ∧ ∀ i, i < t.length → goodAt t i
def smallT (t : List S57) : Prop := ∀ i, (gd t i).f0.size ≤ 1048576
theorem entryOk_path {e : S57} (h : entryOk e = true) : pathOk e.f0 = true := by
  unfold entryOk at h
  rw [Bool.and_eq_true] at h
  exact h.1
theorem spec_TreeOk_l0 (t : List S57) (hl : t.length ≤ 500) (hz : smallT t) : ∀ (n k i : Nat), 2 * n + 2100000 ≤ k → i + n = t.length → (∀ j, j < i → goodAt t j) →
    ∃ b, spec_TreeOk.l0 k t (i : Int) = some b ∧ (b = true ↔ ∀ j, i ≤ j → j < t.length → goodAt t j) := by
  intro n
  induction n with
  | zero =>
    intro k i hk hi hg
    obtain ⟨k, rfl⟩ : ∃ k', k = k' + 1 := ⟨k - 1, by omega⟩
    rw [spec_TreeOk.l0, if_neg (by omega)]
    exact ⟨true, rfl, ⟨fun _ j h1 h2 => by omega, fun _ => rfl⟩⟩
  | succ n ih =>
    intro k i hk hi hg
    obtain ⟨k, rfl⟩ : ∃ k', k = k' + 2 := ⟨k - 2, by omega⟩
    have hzi := hz i
    have hw : wrap64 ((i : Int) + 1) = ((i + 1 : Nat) : Int) := by rw [wrap64_id (by omega) (by omega)]; omega
    rw [spec_TreeOk.l0, if_pos (by omega), if_pos (by omega), rd_gd, spec_l10EntryOk_eq _ (by omega) _ (by omega), Option.bind_some]
    have hbad : ¬ goodAt t i → (false = true ↔ ∀ j, i ≤ j → j < t.length → goodAt t j) := fun hb => ⟨fun h => (by cases h), fun h => absurd (h i (Nat.le_refl _) (by omega)) hb⟩
    have hr : risen t i := fun j h1 h2 => (hg j h2).2.1 h1
    -- behind the order
    have hj : entryOk (gd t i) = true → ∀ o : Bool, (0 < i → o = !(less (gd t (i - 1)).f0 (gd t i).f0)) → (i = 0 → o = false) →
        ∃ b, spec_TreeOk.j1 (k + 1) t (i : Int) o = some b ∧ (b = true ↔ ∀ j, i ≤ j → j < t.length → goodAt t j) := by
      intro he o ho1 ho2
      rw [spec_TreeOk.j1]
      cases o with
      | true =>
        rw [if_pos rfl]
        refine ⟨false, rfl, hbad fun hb => ?_⟩
        rcases Nat.eq_zero_or_pos i with h0 | h0
        · cases ho2 h0
        · have h1 := ho1 h0
          rw [hb.2.1 h0] at h1
          cases h1
      | false =>
        rw [if_neg (by decide), if_pos (by omega), if_pos (by omega), rd_gd, spec_l10Up_eq _ (by omega) _ (by omega), Option.bind_some, hw]
        have hord : 0 < i → less (gd t (i - 1)).f0 (gd t i).f0 = true := fun h0 => by
          have h1 := ho1 h0
          cases h2 : less (gd t (i - 1)).f0 (gd t i).f0 with
          | true => rfl
          | false => rw [h2] at h1; cases h1
        have hgo : goodAt t i → ∃ b, spec_TreeOk.l0 k t ((i + 1 : Nat) : Int) = some b ∧ (b = true ↔ ∀ j, i ≤ j → j < t.length → goodAt t j) := fun hgi => by
          obtain ⟨b, hb1, hb2⟩ := ih k (i + 1) (by omega) (by omega) (fun j hj => by
            rcases Nat.lt_or_ge j i with h | h
            · exact hg j h
            · obtain rfl : j = i := by omega
              exact hgi)
          refine ⟨b, hb1, hb2.trans ⟨fun h j h1 h2 => ?_, fun h j h1 h2 => h j (by omega) h2⟩⟩
          rcases Nat.lt_or_ge i j with h3 | h3
          · exact h j h3 h2
          · obtain rfl : j = i := by omega
            exact hgi
        cases hu : (upOf (gd t i).f0).2 with
        | false =>
          rw [upOf_no _ hu, if_pos ((toList_nil _).2 rfl)]
          exact hgo ⟨he, hord, fun h => by rw [hu] at h; cases h⟩
        | true =>
          obtain ⟨q, hq0, hq1, hq⟩ := upOf_ok _ (entryOk_path he) hu
          have hqs : (upOf (gd t i).f0).1.size ≠ 0 := by
            rw [hq, ← bs_length, bs_upto, List.length_take, bs_length]
            omega
          obtain ⟨b, hb1, hb2⟩ := spec_l10Dir_eq t i (upOf (gd t i).f0).1 (by omega) (by omega) hr k (by omega)
          rw [if_neg (fun h => hqs ((toList_nil _).1 h)), if_pos (by omega)]
          simp only [Int.toNat_natCast]
          rw [hb1, Option.bind_some]
          cases b with
          | true =>
            rw [if_pos rfl]
            exact hgo ⟨he, hord, fun _ => hb2.1 rfl⟩
          | false =>
            rw [if_neg (by decide)]
            exact ⟨false, rfl, hbad fun hb => by cases hb2.2 (hb.2.2 hu)⟩
    cases he : entryOk (gd t i) with
    | false =>
      rw [if_neg (by decide), spec_TreeOk.j1, if_pos rfl]
      exact ⟨false, rfl, hbad fun hb => by rw [hb.1] at he; cases he⟩
    | true =>
      rw [if_pos rfl]
      by_cases h0 : 0 < i
      · have hw2 : wrap64 ((i : Int) - 1) = ((i - 1 : Nat) : Int) := by rw [wrap64_id (by omega) (by omega)]; omega
        rw [if_pos (by omega), hw2, if_pos (by omega), if_pos (by omega), rd_gd, bl_less]
        exact hj he _ (fun _ => rfl) (fun h => by omega)
      · rw [if_neg (by omega)]
        exact hj he false (fun h => absurd h h0) (fun _ => rfl)
theorem spec_TreeOk_eq (t : List S57) (hz : smallT t) (k : Nat) (hk : 2110000 ≤ k) : ∃ b, spec_TreeOk.f k t = some b ∧ (b = true ↔ treeOk t) := by
  unfold spec_TreeOk.f treeOk
  by_cases h : t.length > 500
  · rw [if_pos (by omega)]
    exact ⟨false, rfl, ⟨fun h => (by cases h), fun h2 => by omega⟩⟩
  · rw [if_neg (by omega)]
    obtain ⟨b, h1, h2⟩ := spec_TreeOk_l0 t (by omega) hz t.length k 0 (by omega) (by omega) (fun j h => absurd h (Nat.not_lt_zero _))
    exact ⟨b, h1, h2.trans ⟨fun h3 => ⟨by omega, fun i hi => h3 i (Nat.zero_le _) hi⟩, fun h3 j _ hj => h3.2 j hj⟩⟩
end Go.Proofs.YtikjbfjnbhaljaaGreatDoor.P
end

section
set_option linter.unusedVariables false
set_option linter.unusedSimpArgs false
namespace Go.Proofs.YtikjbfjnbhaljaaGreatDoor.P
open Go.RowKit Go.Proofs.YtikjbfjnbhaljaaGreatDoorW.PrintWords Go.Proofs.YtikjbfjnbhaljaaGreatDoorW.PrintLast Go.Proofs.YtikjbfjnbhaljaaGreatDoorM
theorem mkx_one (c : Int) : (strOfNums [c]).size = 1 := rfl
theorem mkx_l0 : ∀ (n k : Nat) (x : Int) (s : ByteArray), n + 1 ≤ k → x < 10 ^ n → s.size + n ≤ 1000 → ∃ r, laws_markText.l0 k x s = some r := by
  intro n
  induction n with
  | zero =>
    intro k x s hk hx hs
    obtain ⟨k, rfl⟩ : ∃ k', k = k' + 1 := ⟨k - 1, by omega⟩
    rw [laws_markText.l0, if_neg (by simp at hx; omega), if_pos (by omega)]
    exact ⟨_, rfl⟩
  | succ n ih =>
    intro k x s hk hx hs
    obtain ⟨k, rfl⟩ : ∃ k', k = k' + 1 := ⟨k - 1, by omega⟩
    rw [laws_markText.l0]
    by_cases h : x > 0
    · rw [if_pos h, Option.bind_some, mkx_one, if_pos (by omega)]
      refine ih k _ _ (by omega) ?_ (by rw [ByteArray.size_append, mkx_one]; omega)
      rw [Int.tdiv_eq_ediv_of_nonneg (by omega)]
      have h1 : x / 10 < 10 ^ n := by rw [Int.pow_succ] at hx; omega
      by_cases h2 : x / 10 ≤ 9223372036854775807
      · rw [wrap64_id (by omega) h2]; exact h1
      · unfold wrap64; omega
    · rw [if_neg h, if_pos (by omega)]
      exact ⟨_, rfl⟩
theorem mkx_eq (k : Nat) (x : Int) (hx : x < 10000000000000000000) (hk : 20 ≤ k) : ∃ r, laws_markText.f k x = some r := by
  unfold laws_markText.f
  by_cases h : x ≤ 0
  · rw [if_pos h]; exact ⟨_, rfl⟩
  · rw [if_neg h]; exact mkx_l0 19 k x _ hk hx (by decide)
def mx (a : Int) : ByteArray := (laws_markText.f 20 a).getD ByteArray.empty
theorem mkx (k : Nat) (a : Int) (ha : a < 10000000000000000000) (hk : 20 ≤ k) : laws_markText.f k a = some (mx a) := by
  obtain ⟨r, hr⟩ := mkx_eq 20 a ha (Nat.le_refl _)
  have h2 := at_rounds (fun k => laws_markText.mono a k) hk hr
  rw [h2]
  unfold mx
  rw [hr]; rfl
theorem wn (a : Nat) (h : a ≤ 4611686018427387904) : wrap64 ((a : Int) + 1) = ((a + 1 : Nat) : Int) := by rw [wrap64_id (by omega) (by omega)]; omega
def mTx : Nat → Nat → List ByteArray
  | _, 0 => []
  | a, n + 1 => mx (a : Int) :: mTx (a + 1) n
theorem markStringS_run : ∀ (t : List ByteArray) (k a : Nat) (pre : List ByteArray), a + t.length ≤ 4611686018427387904 → pre.length + t.length ≤ 4611686018427387904 → t.length + 22 ≤ k →
    laws_markStringS.l0 k (pre ++ t) (a : Int) (pre.length : Int) = some (((a + t.length : Nat) : Int), pre ++ mTx a t.length) := by
  intro t
  induction t with
  | nil =>
    intro k a pre ha hp hk
    obtain ⟨k, rfl⟩ : ∃ k', k = k' + 1 := ⟨k - 1, by omega⟩
    rw [laws_markStringS.l0, if_neg (by simp)]
    rfl
  | cons x t ih =>
    intro k a pre ha hp hk
    obtain ⟨k, rfl⟩ : ∃ k', k = k' + 1 := ⟨k - 1, by omega⟩
    rw [List.length_cons] at ha hp hk
    rw [laws_markStringS.l0, if_pos (by simp; omega), mkx k _ (by omega) (by omega), Option.bind_some, if_pos (by omega), wn _ (by omega), wn _ (by omega), Int.toNat_natCast,
      List.set_append_right _ _ (Nat.le_refl _), Nat.sub_self, List.set_cons_zero, show pre ++ mx (a : Int) :: t = (pre ++ [mx (a : Int)]) ++ t by simp]
    have h := ih k (a + 1) (pre ++ [mx (a : Int)]) (by omega) (by simp; omega) (by omega)
    rw [List.length_append, List.length_singleton] at h
    rw [h, List.length_cons, mTx, show a + 1 + t.length = a + (t.length + 1) by omega]
    simp
theorem markStringS_mTx (t : List ByteArray) (a : Nat) (ha : a + t.length ≤ 4611686018427387904) (k : Nat) (hk : t.length + 22 ≤ k) : laws_markStringS.f k t (a : Int) = some (((a + t.length : Nat) : Int), mTx a t.length) :=
  markStringS_run t k a [] ha (by simp; omega) hk
theorem rdOf_at (pre t : List ByteArray) (x : ByteArray) : rdOf ByteArray.empty (pre ++ x :: t) (pre.length : Int) = x := by simp [rdOf]
theorem heldStringS_run : ∀ (n k a : Nat) (pre : List ByteArray), a + n ≤ 4611686018427387904 → pre.length + n ≤ 4611686018427387904 → n + 22 ≤ k →
    laws_heldStringS.l0 k (pre ++ mTx a n) (a : Int) (pre.length : Int) = some ((a + n : Nat) : Int) := by
  intro n
  induction n with
  | zero =>
    intro k a pre ha hp hk
    obtain ⟨k, rfl⟩ : ∃ k', k = k' + 1 := ⟨k - 1, by omega⟩
    rw [laws_heldStringS.l0, if_neg (by simp [mTx])]
    rfl
  | succ n ih =>
    intro k a pre ha hp hk
    obtain ⟨k, rfl⟩ : ∃ k', k = k' + 1 := ⟨k - 1, by omega⟩
    rw [mTx, laws_heldStringS.l0, if_pos (by simp; omega), if_pos (by omega), mkx k _ (by omega) (by omega), Option.bind_some, rdOf_at, if_pos rfl, wn _ (by omega), wn _ (by omega),
      show pre ++ mx (a : Int) :: mTx (a + 1) n = (pre ++ [mx (a : Int)]) ++ mTx (a + 1) n by simp]
    have h := ih k (a + 1) (pre ++ [mx (a : Int)]) (by omega) (by simp; omega) (by omega)
    rw [List.length_append, List.length_singleton] at h
    rw [h, show a + 1 + n = a + (n + 1) by omega]
theorem heldStringS_mTx (n a : Nat) (ha : a + n ≤ 4611686018427387904) (k : Nat) (hk : n + 22 ≤ k) : laws_heldStringS.f k (mTx a n) (a : Int) = some ((a + n : Nat) : Int) :=
  heldStringS_run n k a [] ha (by simp; omega) hk
def mEn (a : Nat) : S57 := ⟨mx (a : Int), ((a + 1 : Nat) : Int), mx ((a + 2 : Nat) : Int), (Int.tmod ((a + 3 : Nat) : Int) 3 == 0)⟩
def mEx : Nat → Nat → List S57
  | _, 0 => []
  | a, n + 1 => mEn a :: mEx (a + 4) n
theorem rdE_set (l : List S57) (i : Nat) (v : S57) (h : i < l.length) : rd_T57 (l.set i v) (i : Int) = v := by
  unfold rd_T57
  rw [Int.toNat_natCast, List.getD_eq_getElem?_getD, List.getElem?_set_self h]; rfl
theorem markEntryS_run : ∀ (t : List S57) (k a : Nat) (pre : List S57), a + 4 * t.length ≤ 4611686018427387904 → pre.length + t.length ≤ 4611686018427387904 → t.length + 22 ≤ k →
    laws_markEntryS.l0 k (pre ++ t) (a : Int) (pre.length : Int) = some (((a + 4 * t.length : Nat) : Int), pre ++ mEx a t.length) := by
  intro t
  induction t with
  | nil =>
    intro k a pre ha hp hk
    obtain ⟨k, rfl⟩ : ∃ k', k = k' + 1 := ⟨k - 1, by omega⟩
    rw [laws_markEntryS.l0, if_neg (by simp)]
    rfl
  | cons x t ih =>
    intro k a pre ha hp hk
    obtain ⟨k, rfl⟩ : ∃ k', k = k' + 1 := ⟨k - 1, by omega⟩
    rw [List.length_cons] at ha hp hk
    have hlen : pre.length < (pre ++ x :: t).length := by simp
    have w2 : wrap64 (((a + 1 : Nat) : Int) + 1) = ((a + 2 : Nat) : Int) := wn (a + 1) (by omega)
    have w3 : wrap64 (((a + 2 : Nat) : Int) + 1) = ((a + 3 : Nat) : Int) := wn (a + 2) (by omega)
    have w4 : wrap64 (((a + 3 : Nat) : Int) + 1) = ((a + 4 : Nat) : Int) := wn (a + 3) (by omega)
    rw [laws_markEntryS.l0, if_pos (by simp; omega), mkx k _ (by omega) (by omega), Option.bind_some, if_pos (by omega), Option.bind_some, Option.bind_some, wn _ (by omega), w2,
      mkx k _ (by omega) (by omega), Option.bind_some, Option.bind_some, w3, w4, wn _ (by omega), Int.toNat_natCast]
    have hl1 : ∀ v, pre.length < ((pre ++ x :: t).set pre.length v).length := fun v => by rw [List.length_set]; exact hlen
    simp only [rdE_set _ _ _ hlen, List.set_set]
    have e : (pre ++ x :: t).set pre.length (⟨mx (a : Int), ((a + 1 : Nat) : Int), mx ((a + 2 : Nat) : Int), (Int.tmod ((a + 3 : Nat) : Int) 3 == 0)⟩ : S57) = (pre ++ [mEn a]) ++ t := by
      rw [List.set_append_right _ _ (Nat.le_refl _), Nat.sub_self, List.set_cons_zero]
      simp [mEn]
    have h := ih k (a + 4) (pre ++ [mEn a]) (by omega) (by simp; omega) (by omega)
    rw [List.length_append, List.length_singleton] at h
    rw [e, h, List.length_cons, mEx, show a + 4 + 4 * t.length = a + 4 * (t.length + 1) by omega]
    simp
theorem markEntryS_mEx (t : List S57) (a : Nat) (ha : a + 4 * t.length ≤ 4611686018427387904) (k : Nat) (hk : t.length + 22 ≤ k) : laws_markEntryS.f k t (a : Int) = some (((a + 4 * t.length : Nat) : Int), mEx a t.length) :=
  markEntryS_run t k a [] ha (by simp; omega) hk
end Go.Proofs.YtikjbfjnbhaljaaGreatDoor.P
end

section
set_option linter.unusedVariables false
set_option linter.unusedSimpArgs false
namespace Go.Proofs.YtikjbfjnbhaljaaGreatDoor.P
open Go.RowKit Go.Proofs.YtikjbfjnbhaljaaGreatDoorW.PrintWords Go.Proofs.YtikjbfjnbhaljaaGreatDoorW.PrintLast Go.Proofs.YtikjbfjnbhaljaaGreatDoorM
def mIt (a : Nat) (x : S55) : S55 := ⟨mx (a : Int), mx ((a + 1 : Nat) : Int), mTx (a + 2) x.f2.length, mx ((a + 2 + x.f2.length : Nat) : Int), mEx (a + 2 + x.f2.length + 1) x.f4.length⟩
def wI (x : S55) : Nat := 2 + x.f2.length + 1 + 4 * x.f4.length
def mIs : Nat → List S55 → List S55
  | _, [] => []
  | a, x :: l => mIt a x :: mIs (a + wI x) l
def wIs : List S55 → Nat
  | [] => 0
  | x :: l => wI x + wIs l
def tameI (l : List S55) : Prop := ∀ x ∈ l, x.f2.length ≤ 1048576 ∧ x.f4.length ≤ 1048576
theorem wIs_le (l : List S55) (h : tameI l) : wIs l ≤ l.length * 5242883 := by
  induction l with
  | nil => exact Nat.le_refl _
  | cons x l ih =>
    have h1 := ih fun y hy => h y (List.mem_cons_of_mem _ hy)
    have h2 := h x List.mem_cons_self
    have h3 : wIs (x :: l) = wI x + wIs l := rfl
    have h4 : wI x = 2 + x.f2.length + 1 + 4 * x.f4.length := rfl
    rw [h3, List.length_cons, Nat.add_mul]
    omega
theorem rdI_at (pre t : List S55) (x : S55) : rd_T55 (pre ++ x :: t) (pre.length : Int) = x := by simp [rd_T55]
theorem lt_app {α : Type} (pre t : List α) (x : α) : (pre.length : Int) < ((pre ++ x :: t).length : Int) := by simp; omega
theorem nn (n : Nat) : 0 ≤ (n : Int) := Int.natCast_nonneg n
theorem markItemS_run : ∀ (t : List S55) (k a : Nat) (pre : List S55), tameI t → a + wIs t ≤ 4611686018427387000 → pre.length + t.length ≤ 4611686018427387904 → t.length + 1048600 ≤ k →
    laws_markItemS.l0 k (pre ++ t) (a : Int) (pre.length : Int) = some (((a + wIs t : Nat) : Int), pre ++ mIs a t) := by
  intro t
  induction t with
  | nil =>
    intro k a pre hs ha hp hk
    obtain ⟨k, rfl⟩ : ∃ k', k = k' + 1 := ⟨k - 1, by omega⟩
    rw [laws_markItemS.l0, if_neg (by simp)]
    rfl
  | cons x t ih =>
    intro k a pre hs ha hp hk
    obtain ⟨k, rfl⟩ : ∃ k', k = k' + 1 := ⟨k - 1, by omega⟩
    rw [List.length_cons] at hp hk
    have h2 := hs x List.mem_cons_self
    have ih2 := fun k a pre => ih k a pre (fun y hy => hs y (List.mem_cons_of_mem _ hy))
    have hw : wIs (x :: t) = wI x + wIs t := rfl
    have hx : wI x = 2 + x.f2.length + 1 + 4 * x.f4.length := rfl
    have hm : mIs a (x :: t) = mIt a x :: mIs (a + wI x) t := rfl
    have he : mIt a x = ⟨mx (a : Int), mx ((a + 1 : Nat) : Int), mTx (a + 2) x.f2.length, mx ((a + 2 + x.f2.length : Nat) : Int), mEx (a + 2 + x.f2.length + 1) x.f4.length⟩ := rfl
    rw [hw] at ha ⊢
    rw [hm]
    clear hs ih hw hm
    generalize wIs t = Wt at ha ih2 ⊢
    generalize wI x = Wx at ha hx ⊢
    generalize mIt a x = mi at he ⊢
    have e1 := mkx k (a : Int) (by omega) (by omega)
    have e2 := mkx k ((a + 1 : Nat) : Int) (by omega) (by omega)
    have e3 := markStringS_mTx x.f2 (a + 2) (by omega) k (by omega)
    have e4 := mkx k ((a + 2 + x.f2.length : Nat) : Int) (by omega) (by omega)
    have e5 := markEntryS_mEx x.f4 (a + 2 + x.f2.length + 1) (by omega) k (by omega)
    have b1 : a + 1 ≤ 4611686018427387904 := by omega
    have b2 : a + 2 + x.f2.length ≤ 4611686018427387904 := by omega
    have b0 : a ≤ 4611686018427387904 := by omega
    have b5 : pre.length ≤ 4611686018427387904 := by omega
    have h := ih2 k (a + Wx) (pre ++ [mi]) (by omega) (by rw [List.length_append, List.length_singleton]; omega) (by omega)
    rw [List.length_append, List.length_singleton] at h
    have hn : a + 2 + x.f2.length + 1 + 4 * x.f4.length = a + Wx := by omega
    have hn2 : a + Wx + Wt = a + (Wx + Wt) := by omega
    have w2 : wrap64 (((a + 1 : Nat) : Int) + 1) = ((a + 2 : Nat) : Int) := wn (a + 1) b1
    have w3 : wrap64 (((a + 2 + x.f2.length : Nat) : Int) + 1) = ((a + 2 + x.f2.length + 1 : Nat) : Int) := wn _ b2
    have w0 := wn a b0
    have w5 := wn pre.length b5
    rw [laws_markItemS.l0, if_pos (lt_app pre t x), if_pos (nn _), e1, Option.bind_some, w0, e2, Option.bind_some, rdI_at, w2, e3, Option.bind_some]
    dsimp only
    rw [e4, Option.bind_some, w3, e5, Option.bind_some]
    dsimp only
    rw [w5, Int.toNat_natCast, List.set_append_right _ _ (Nat.le_refl _), Nat.sub_self, List.set_cons_zero, ← he, hn, show pre ++ mi :: t = (pre ++ [mi]) ++ t by simp, h, hn2]
    simp
theorem markItemS_mIs (t : List S55) (hs : tameI t) (a : Nat) (ha : a + wIs t ≤ 4611686018427387000) (hl : t.length ≤ 4611686018427387904) (k : Nat) (hk : t.length + 1048600 ≤ k) : laws_markItemS.f k t (a : Int) = some (((a + wIs t : Nat) : Int), mIs a t) :=
  markItemS_run t k a [] hs ha (by simp; omega) hk
end Go.Proofs.YtikjbfjnbhaljaaGreatDoor.P
end

section
set_option linter.unusedVariables false
set_option linter.unusedSimpArgs false
namespace Go.Proofs.YtikjbfjnbhaljaaGreatDoor.P
open Go.RowKit Go.Proofs.YtikjbfjnbhaljaaGreatDoorW.PrintWords Go.Proofs.YtikjbfjnbhaljaaGreatDoorM
theorem mgetD_snoc (m : List (ByteArray × Int)) (a p : ByteArray) : mgetD 0 (m ++ [(a, 1)]) p = if a = p then 1 else mgetD 0 m p := by
  unfold mgetD
  by_cases h : a = p <;> simp [h]
def dm (t : List S57) : Nat → List (ByteArray × Int)
  | 0 => []
  | i + 1 => if (gd t i).f1 = 1 then dm t i ++ [((gd t i).f0, 1)] else dm t i
theorem dm_length (t : List S57) : ∀ n, (dm t n).length ≤ n
  | 0 => by simp [dm]
  | n + 1 => by
    have := dm_length t n
    rw [dm]
    split
    · simp; omega
    · omega
theorem dm_get (t : List S57) (p : ByteArray) : ∀ n, (mgetD 0 (dm t n) p = 0 ↔ ¬ dirAt t n p)
  | 0 => by
    simp only [dm, mgetD]
    refine ⟨fun _ h => ?_, fun _ => by simp⟩
    obtain ⟨i, hi, _⟩ := h
    omega
  | n + 1 => by
    have ih := dm_get t p n
    have hs : dirAt t (n + 1) p ↔ dirAt t n p ∨ ((gd t n).f0 = p ∧ (gd t n).f1 = 1) := by
      constructor
      · rintro ⟨i, hi, h⟩
        rcases Nat.lt_or_ge i n with h1 | h1
        · exact .inl ⟨i, h1, h⟩
        · obtain rfl : i = n := by omega
          exact .inr h
      · rintro (⟨i, hi, h⟩ | h)
        · exact ⟨i, by omega, h⟩
        · exact ⟨n, by omega, h⟩
    rw [dm, hs]
    by_cases h1 : (gd t n).f1 = 1
    · rw [if_pos h1, mgetD_snoc]
      by_cases h2 : (gd t n).f0 = p
      · simp [h1, h2]
      · simp [h1, h2, ih]
    · rw [if_neg h1, ih]
      simp [h1]
theorem impl_TreeOk_l1 (t : List S57) (hl : t.length ≤ 500) (hz : smallT t) : ∀ (n k i : Nat), n + 1 ≤ k → i + n = t.length →
    ∃ b, impl_TreeOk.l1 k (dm t t.length) t (t.length : Int) (i : Int) = some b ∧ (b = true ↔ ∀ j, i ≤ j → j < t.length → (upOf (gd t j).f0).2 = true → dirAt t t.length (upOf (gd t j).f0).1) := by
  intro n
  induction n with
  | zero =>
    intro k i hk hi
    obtain ⟨k, rfl⟩ : ∃ k', k = k' + 1 := ⟨k - 1, by omega⟩
    rw [impl_TreeOk.l1, if_neg (by omega)]
    exact ⟨true, rfl, ⟨fun _ j h1 h2 => by omega, fun _ => rfl⟩⟩
  | succ n ih =>
    intro k i hk hi
    obtain ⟨k, rfl⟩ : ∃ k', k = k' + 1 := ⟨k - 1, by omega⟩
    have hzi := hz i
    have hw : wrap64 ((i : Int) + 1) = ((i + 1 : Nat) : Int) := by rw [wrap64_id (by omega) (by omega)]; omega
    rw [impl_TreeOk.l1, if_pos (by omega), if_pos (by omega), if_pos (by omega), rd_gd, impl_upper_eq _ (by omega), Option.bind_some, hw]
    obtain ⟨b, hb1, hb2⟩ := ih k (i + 1) (by omega) (by omega)
    have hgo : ((upOf (gd t i).f0).2 = true → dirAt t t.length (upOf (gd t i).f0).1) → ∃ b, impl_TreeOk.l1 k (dm t t.length) t (t.length : Int) ((i + 1 : Nat) : Int) = some b ∧ (b = true ↔ ∀ j, i ≤ j → j < t.length → (upOf (gd t j).f0).2 = true → dirAt t t.length (upOf (gd t j).f0).1) := fun hg => by
      refine ⟨b, hb1, hb2.trans ⟨fun h j h1 h2 => ?_, fun h j h1 h2 => h j (by omega) h2⟩⟩
      rcases Nat.lt_or_ge i j with h3 | h3
      · exact h j h3 h2
      · obtain rfl : j = i := by omega
        exact hg
    cases hu : (upOf (gd t i).f0).2 with
    | false => rw [if_neg (by decide)]; exact hgo (fun h => by rw [hu] at h; cases h)
    | true =>
      have hus : (upOf (gd t i).f0).1.size ≤ 1048576 := by
        unfold upOf
        split
        · decide
        · show ((gd t i).f0.extract 0 _).size ≤ _
          rw [← bs_length, bs_upto, List.length_take, bs_length]
          omega
      rw [if_pos rfl, if_pos (by omega)]
      by_cases hd : mgetD 0 (dm t t.length) (upOf (gd t i).f0).1 = 0
      · rw [if_pos hd]
        exact ⟨false, rfl, ⟨fun h => (by cases h), fun h => absurd (h i (Nat.le_refl _) (by omega) hu) ((dm_get t _ _).1 hd)⟩⟩
      · rw [if_neg hd]
        refine hgo (fun _ => ?_)
        by_cases hx : dirAt t t.length (upOf (gd t i).f0).1
        · exact hx
        · exact absurd ((dm_get t _ _).2 hx) hd
def firstAt (t : List S57) (i : Nat) : Prop := entryOk (gd t i) = true ∧ (0 < i → less (gd t (i - 1)).f0 (gd t i).f0 = true)
def upsIn (t : List S57) : Prop := ∀ j, j < t.length → (upOf (gd t j).f0).2 = true → dirAt t t.length (upOf (gd t j).f0).1
theorem impl_TreeOk_l0 (t : List S57) (hl : t.length ≤ 500) (hz : smallT t) : ∀ (n k i : Nat), 2 * n + 700 ≤ k → i + n = t.length →
    ∃ b, impl_TreeOk.l0 k t (dm t i) t (t.length : Int) (i : Int) = some b ∧ (b = true ↔ (∀ j, i ≤ j → j < t.length → firstAt t j) ∧ upsIn t) := by
  intro n
  induction n with
  | zero =>
    intro k i hk hi
    obtain ⟨k, rfl⟩ : ∃ k', k = k' + 1 := ⟨k - 1, by omega⟩
    obtain rfl : i = t.length := by omega
    rw [impl_TreeOk.l0, if_neg (by omega)]
    obtain ⟨b, h1, h2⟩ := impl_TreeOk_l1 t hl hz t.length k 0 (by omega) (by omega)
    exact ⟨b, h1, h2.trans ⟨fun h => ⟨fun j h3 h4 => by omega, fun j hj => h j (Nat.zero_le _) hj⟩, fun h j _ hj => h.2 j hj⟩⟩
  | succ n ih =>
    intro k i hk hi
    obtain ⟨k, rfl⟩ : ∃ k', k = k' + 2 := ⟨k - 2, by omega⟩
    have hzi := hz i
    have hw : wrap64 ((i : Int) + 1) = ((i + 1 : Nat) : Int) := by rw [wrap64_id (by omega) (by omega)]; omega
    have hdl := dm_length t i
    rw [impl_TreeOk.l0, if_pos (by omega), if_pos (by omega), if_pos (by omega), rd_gd, impl_pathOk_eq _ (by omega) _ (by omega), Option.bind_some]
    have hbad : ¬ firstAt t i → (false = true ↔ (∀ j, i ≤ j → j < t.length → firstAt t j) ∧ upsIn t) := fun hb => ⟨fun h => (by cases h), fun h => absurd (h.1 i (Nat.le_refl _) (by omega)) hb⟩
    -- behind the tests
    have hj : ∀ o : Bool, (o = true → ¬ firstAt t i) → (o = false → pathOk (gd t i).f0 = true ∧ ((gd t i).f3 = true → (gd t i).f1 = 2) ∧ (0 < i → less (gd t (i - 1)).f0 (gd t i).f0 = true)) →
        ∃ b, impl_TreeOk.j1 (k + 1) t (dm t i) t (t.length : Int) (i : Int) o (gd t i).f0 (gd t i).f1 (gd t i).f2 (gd t i).f3 = some b ∧ (b = true ↔ (∀ j, i ≤ j → j < t.length → firstAt t j) ∧ upsIn t) := by
      intro o ho1 ho2
      rw [impl_TreeOk.j1, hw]
      cases o with
      | true => rw [if_pos rfl]; exact ⟨false, rfl, hbad (ho1 rfl)⟩
      | false =>
        obtain ⟨hp, hx, hor⟩ := ho2 rfl
        obtain ⟨b, hb1, hb2⟩ := ih k (i + 1) (by omega) (by omega)
        have hgo : entryOk (gd t i) = true → (b = true ↔ (∀ j, i ≤ j → j < t.length → firstAt t j) ∧ upsIn t) := fun he => by
          refine hb2.trans ⟨fun h => ⟨fun j h1 h2 => ?_, h.2⟩, fun h => ⟨fun j h1 h2 => h.1 j (by omega) h2, h.2⟩⟩
          rcases Nat.lt_or_ge i j with h3 | h3
          · exact h.1 j h3 h2
          · obtain rfl : j = i := by omega
            exact ⟨he, hor⟩
        rw [if_neg (by decide)]
        simp only [toList_nil]
        have hno : entryOk (gd t i) = false → ∃ b', (some false : Option Bool) = some b' ∧ (b' = true ↔ (∀ j, i ≤ j → j < t.length → firstAt t j) ∧ upsIn t) := fun he => ⟨false, rfl, hbad fun hb => by rw [hb.1] at he; cases he⟩
        by_cases h1 : (gd t i).f1 = 1
        · rw [if_pos h1]
          have hx2 : (gd t i).f3 = false := by
            cases h : (gd t i).f3 with
            | false => rfl
            | true => have := hx h; omega
          by_cases h4 : (gd t i).f2.size = 0
          · rw [if_pos h4, if_pos (by omega), if_pos (by omega)]
            rw [dm, if_pos h1] at hb1
            exact ⟨b, hb1, hgo (by simp [entryOk, hp, h1, h4, hx2])⟩
          · rw [if_neg h4]
            exact hno (by simp [entryOk, hp, h1, h4])
        · rw [if_neg h1]
          rw [dm, if_neg h1] at hb1
          by_cases h2 : (gd t i).f1 = 2
          · rw [if_pos h2]
            by_cases h4 : (gd t i).f2.size > 20000
            · rw [if_pos (by omega)]
              exact hno (by simp [entryOk, hp, show ¬ (gd t i).f2.size ≤ 20000 by omega])
            · rw [if_neg (by omega)]
              exact ⟨b, hb1, hgo (by simp [entryOk, hp, h2, show (gd t i).f2.size ≤ 20000 by omega])⟩
          · rw [if_neg h2]
            have hx2 : (gd t i).f3 = false := by
              cases h : (gd t i).f3 with
              | false => rfl
              | true => exact absurd (hx h) h2
            by_cases h3 : (gd t i).f1 = 3
            · rw [if_pos h3]
              by_cases h4 : (gd t i).f2.size < 1
              · rw [if_pos (by omega)]
                exact hno (by simp [entryOk, hp, h3, show (gd t i).f2.size = 0 by omega])
              · rw [if_neg (by omega)]
                by_cases h5 : (gd t i).f2.size > 20000
                · rw [if_pos (by omega)]
                  exact hno (by simp [entryOk, hp, show ¬ (gd t i).f2.size ≤ 20000 by omega])
                · rw [if_neg (by omega)]
                  exact ⟨b, hb1, hgo (by simp [entryOk, hp, h3, hx2, show (gd t i).f2.size ≤ 20000 by omega, show ¬ (gd t i).f2.size = 0 by omega])⟩
            · rw [if_neg h3]
              exact hno (by simp [entryOk, h1, h2, h3])
    have hex : (gd t i).f3 = true → (gd t i).f1 ≠ 2 → entryOk (gd t i) = false := fun h3 h2 => by simp [entryOk, h3, h2]
    have htail : pathOk (gd t i).f0 = true → (0 < i → less (gd t (i - 1)).f0 (gd t i).f0 = true) →
        ∃ b, (if (gd t i).f3 = true then impl_TreeOk.j1 (k + 1) t (dm t i) t (t.length : Int) (i : Int) ((gd t i).f1 != 2) (gd t i).f0 (gd t i).f1 (gd t i).f2 (gd t i).f3 else impl_TreeOk.j1 (k + 1) t (dm t i) t (t.length : Int) (i : Int) false (gd t i).f0 (gd t i).f1 (gd t i).f2 (gd t i).f3) = some b ∧ (b = true ↔ (∀ j, i ≤ j → j < t.length → firstAt t j) ∧ upsIn t) := fun hp hor => by
      by_cases h3 : (gd t i).f3 = true
      · rw [if_pos h3]
        refine hj _ (fun h hb => ?_) (fun h => ⟨hp, fun _ => by simpa using h, hor⟩)
        have := hex h3 (by simpa using h)
        rw [hb.1] at this
        cases this
      · rw [if_neg h3]
        exact hj _ (fun h => by cases h) (fun _ => ⟨hp, fun h => absurd h h3, hor⟩)
    cases hp : pathOk (gd t i).f0 with
    | false =>
      rw [if_neg (by decide)]
      exact hj _ (fun _ hb => by have := entryOk_path hb.1; rw [hp] at this; cases this) (fun h => by cases h)
    | true =>
      rw [if_pos rfl]
      by_cases h0 : 0 < i
      · have hw2 : wrap64 ((i : Int) - 1) = ((i - 1 : Nat) : Int) := by rw [wrap64_id (by omega) (by omega)]; omega
        rw [if_pos (by omega), hw2, if_pos (by omega), if_pos (by omega), rd_gd, bl_less]
        cases ho : less (gd t (i - 1)).f0 (gd t i).f0 with
        | true => rw [if_pos rfl]; exact htail hp (fun _ => ho)
        | false =>
          rw [if_neg (by decide)]
          exact hj _ (fun _ hb => by have := hb.2 h0; rw [ho] at this; cases this) (fun h => by cases h)
      · rw [if_neg (by omega)]
        exact htail hp (fun h => absurd h h0)
theorem treeOk_iff (t : List S57) : (t.length ≤ 500 ∧ (∀ j, j < t.length → firstAt t j) ∧ upsIn t) ↔ treeOk t := by
  constructor
  · rintro ⟨h0, h1, h2⟩
    have hr : risen t t.length := fun j hj1 hj2 => (h1 j hj2).2 hj1
    refine ⟨h0, fun i hi => ⟨(h1 i hi).1, (h1 i hi).2, fun hu => ?_⟩⟩
    obtain ⟨j, hj, he, hk⟩ := h2 i hi hu
    refine ⟨j, ?_, he, hk⟩
    obtain ⟨q, hq0, hq1, hq⟩ := upOf_ok _ (entryOk_path (h1 i hi).1) hu
    have hlt : less (upOf (gd t i).f0).1 (gd t i).f0 = true := by
      unfold less
      rw [hq, bs_upto]
      exact less_begin _ _ (by rw [bs_length]; exact hq1)
    rcases Nat.lt_trichotomy j i with h | h | h
    · exact h
    · subst h
      rw [← he, less_irrefl] at hlt
      cases hlt
    · have h3 := risen_less hr h hj
      rw [he] at h3
      rw [less_asymm h3] at hlt
      cases hlt
  · rintro ⟨h0, h1⟩
    refine ⟨h0, fun j hj => ⟨(h1 j hj).1, (h1 j hj).2.1⟩, fun j hj hu => ?_⟩
    obtain ⟨q, hq, h⟩ := (h1 j hj).2.2 hu
    exact ⟨q, by omega, h⟩
theorem impl_TreeOk_eq (t : List S57) (hz : smallT t) (k : Nat) (hk : 2000 ≤ k) : ∃ b, impl_TreeOk.f k t = some b ∧ (b = true ↔ treeOk t) := by
  unfold impl_TreeOk.f
  by_cases h : t.length > 500
  · rw [if_pos (by omega)]
    exact ⟨false, rfl, ⟨fun h => (by cases h), fun h2 => by have := h2.1; omega⟩⟩
  · rw [if_neg (by omega)]
    obtain ⟨b, h1, h2⟩ := impl_TreeOk_l0 t (by omega) hz t.length k 0 (by omega) (by omega)
    refine ⟨b, h1, h2.trans (Iff.trans ?_ (treeOk_iff t))⟩
    exact ⟨fun h3 => ⟨by omega, fun j hj => h3.1 j (Nat.zero_le _) hj, h3.2⟩, fun h3 => ⟨fun j _ hj => h3.2.1 j hj, h3.2.2⟩⟩
end Go.Proofs.YtikjbfjnbhaljaaGreatDoor.P
end

section
set_option linter.unusedVariables false
set_option linter.unusedSimpArgs false
namespace Go.Proofs.YtikjbfjnbhaljaaGreatDoor.P
open Go.RowKit Go.Proofs.YtikjbfjnbhaljaaGreatDoorW.PrintWords Go.Proofs.YtikjbfjnbhaljaaGreatDoorW.PrintLast Go.Proofs.YtikjbfjnbhaljaaGreatDoorM
theorem idx_both (c : Int) (h0 : 0 ≤ c) (h1 : c ≤ 255) (k : Nat) (hk : 40 ≤ k) :
    ∃ r : Int, spec_l1Index.f k c = some r ∧ strings_IndexByte.f (⟨#[48, 49, 50, 51, 52, 53, 54, 55, 56, 57, 97, 98, 99, 100, 102, 103, 104, 105, 106, 107, 108, 109, 110, 112, 113, 114, 115, 118, 119, 120, 121, 122]⟩ : ByteArray) c = some r ∧ r ≤ 31 := by
  have key : ∀ c : Fin 256, spec_l1Index.f 40 (c.val : Int) = strings_IndexByte.f (⟨#[48, 49, 50, 51, 52, 53, 54, 55, 56, 57, 97, 98, 99, 100, 102, 103, 104, 105, 106, 107, 108, 109, 110, 112, 113, 114, 115, 118, 119, 120, 121, 122]⟩ : ByteArray) (c.val : Int) ∧ ((strings_IndexByte.f (⟨#[48, 49, 50, 51, 52, 53, 54, 55, 56, 57, 97, 98, 99, 100, 102, 103, 104, 105, 106, 107, 108, 109, 110, 112, 113, 114, 115, 118, 119, 120, 121, 122]⟩ : ByteArray) (c.val : Int)).getD 0) ≤ 31 := by
    decide +kernel
  obtain ⟨n, rfl⟩ := Int.eq_ofNat_of_zero_le h0
  have hk2 := key ⟨n, by omega⟩
  obtain ⟨r, hr⟩ : ∃ r, strings_IndexByte.f (⟨#[48, 49, 50, 51, 52, 53, 54, 55, 56, 57, 97, 98, 99, 100, 102, 103, 104, 105, 106, 107, 108, 109, 110, 112, 113, 114, 115, 118, 119, 120, 121, 122]⟩ : ByteArray) ((n : Nat) : Int) = some r := ⟨_, rfl⟩
  refine ⟨r, at_rounds (fun k => spec_l1Index.mono _ k) hk (hk2.1.trans hr), hr, ?_⟩
  have h2 := hk2.2
  rw [hr] at h2
  exact h2
theorem ReadWord32_l0 (s : ByteArray) (hs : s.size = 13) : ∀ (n k i : Nat) (x y : Int), n + 45 ≤ k → i + n = 13 →
    ∃ x' y' ok, impl_ReadWord32.l0 k s x (s.size : Int) (i : Int) = some (x', ok) ∧ spec_ReadWord32.l0 k s y (i : Int) = some (y', ok) := by
  intro n
  induction n with
  | zero =>
    intro k i x y hk hi
    obtain ⟨k, rfl⟩ : ∃ k', k = k' + 1 := ⟨k - 1, by omega⟩
    rw [impl_ReadWord32.l0, spec_ReadWord32.l0, if_neg (by omega), if_neg (by omega)]
    exact ⟨_, _, _, rfl, rfl⟩
  | succ n ih =>
    intro k i x y hk hi
    obtain ⟨k, rfl⟩ : ∃ k', k = k' + 1 := ⟨k - 1, by omega⟩
    have hw : wrap64 ((i : Int) + 1) = ((i + 1 : Nat) : Int) := by rw [wrap64_id (by omega) (by omega)]; omega
    have hb := bt_range s (i : Int)
    obtain ⟨r, hr1, hr2, _⟩ := idx_both (bt s (i : Int)) hb.1 hb.2 k (by omega)
    rw [impl_ReadWord32.l0, spec_ReadWord32.l0, if_pos (by omega), if_pos (by omega), if_pos (by omega), if_pos (by omega), if_pos (by omega), if_pos (by omega), hr1, hr2, Option.bind_some, Option.bind_some, hw]
    by_cases hneg : r < 0
    · rw [if_pos hneg, if_pos hneg]
      exact ⟨_, _, _, rfl, rfl⟩
    · rw [if_neg hneg, if_neg hneg]
      by_cases h0 : (i : Int) = 0
      · rw [if_pos h0, if_pos h0]
        by_cases h15 : r > 15
        · rw [if_pos h15, if_pos h15]
          exact ⟨_, _, _, rfl, rfl⟩
        · rw [if_neg h15, if_neg h15]
          exact ih k (i + 1) _ _ (by omega) (by omega)
      · rw [if_neg h0, if_neg h0]
        exact ih k (i + 1) _ _ (by omega) (by omega)
theorem ReadWord32_both (s : ByteArray) (k : Nat) (hk : 60 ≤ k) : ∃ x y ok, impl_ReadWord32.f k s = some (x, ok) ∧ spec_ReadWord32.f k s = some (y, ok) := by
  unfold impl_ReadWord32.f spec_ReadWord32.f
  by_cases h : (s.size : Int) = 13
  · rw [if_pos h, if_pos h]
    exact ReadWord32_l0 s (by omega) 13 k 0 0 0 (by omega) (by omega)
  · rw [if_neg h, if_neg h]
    exact ⟨_, _, _, rfl, rfl⟩
theorem AddressOk_both (a : ByteArray) (k : Nat) (hk : 70 ≤ k) : ∃ b, impl_AddressOk.f k a = some b ∧ spec_AddressOk.f k a = some b ∧ (b = true → 15 ≤ a.size) := by
  obtain ⟨k, rfl⟩ : ∃ k', k = k' + 1 := ⟨k - 1, by omega⟩
  unfold impl_AddressOk.f spec_AddressOk.f
  by_cases h14 : a.size < 14
  · rw [if_pos (by omega), if_pos (by omega), spec_AddressOk.j0, if_pos rfl]
    exact ⟨false, rfl, rfl, fun h => by cases h⟩
  by_cases h15 : a.size < 15
  · have he : (a.extract 14 a.size).size = 0 := by rw [← bs_length, bs_extract]; simp [bs_length]; omega
    have hn : nameOk (a.extract 14 a.size) = false := by
      unfold nameOk
      rw [he]; rfl
    refine ⟨false, ?_, ?_, fun h => by cases h⟩
    · rw [if_neg (by omega), if_pos (by omega)]
      by_cases h45 : bt a 13 = 45
      · rw [if_pos h45, if_pos (by omega), impl_NameOk_eq _ _ (by omega), hn, Option.bind_some, if_neg (by decide)]
      · rw [if_neg h45]
    · rw [if_pos (by omega), spec_AddressOk.j0, if_pos rfl]
  have n1 : ¬ ((a.size : Int) < 14) := by omega
  have n2 : (13 : Int) < (a.size : Int) := by omega
  have n3 : ¬ ((a.size : Int) < 15) := by omega
  have n4 : (14 : Int) ≤ (a.size : Int) := by omega
  have n5 : (13 : Int) ≤ (a.size : Int) := by omega
  have n6 : (0 : Int) ≤ 13 := by omega
  obtain ⟨x, y, ok, hx, hy⟩ := ReadWord32_both (a.extract 0 13) k (by omega)
  have hx' := at_rounds (fun k => impl_ReadWord32.mono (a.extract 0 13) k) (Nat.le_succ k) hx
  have hi : impl_NameOk.f (k + 1) (a.extract 14 a.size) = some (nameOk (a.extract 14 a.size)) := impl_NameOk_eq _ _ (by omega)
  have hs : spec_NameOk.f k (a.extract 14 a.size) = some (nameOk (a.extract 14 a.size)) := spec_NameOk_eq _ _ (by omega)
  simp only [if_neg n1, if_pos n2, if_neg n3, if_pos n4, if_pos n5, if_pos n6, spec_AddressOk.j0, hi, hs, hx', hy, Option.bind_some]
  by_cases h45 : bt a 13 = 45
  · cases hn : nameOk (a.extract 14 a.size) <;> cases ok <;> simp [h45] <;> omega
  · simp [h45]
end Go.Proofs.YtikjbfjnbhaljaaGreatDoor.P
end

section
set_option linter.unusedVariables false
set_option linter.unusedSimpArgs false
namespace Go.Proofs.YtikjbfjnbhaljaaGreatDoor.P
open Go.RowKit Go.Proofs.YtikjbfjnbhaljaaGreatDoorW.PrintWords Go.Proofs.YtikjbfjnbhaljaaGreatDoorW.PrintLast Go.Proofs.YtikjbfjnbhaljaaGreatDoorW.PrintMore Go.Proofs.YtikjbfjnbhaljaaGreatDoorM
theorem occ_extract (s p : ByteArray) (i : Nat) : (s.extract i (i + p.size)).toList = p.toList ↔ Lib.occAt (bs s) (bs p) i = true := by
  rw [toList_bs, toList_bs, bs_extract, Nat.add_sub_cancel_left]
  unfold Lib.occAt
  rw [List.isPrefixOf_iff_prefix, List.prefix_iff_eq_take, bs_length]
  exact ⟨fun h => h.symm, fun h => h.symm⟩
theorem contains_at {s sub : List UInt8} {i : Nat} (hi : i ≤ s.length) (h : Lib.occAt s sub i = true) : Lib.contains s sub = true := by
  rcases Lib.index_spec s sub with ⟨_, h2⟩ | ⟨j, h1, _⟩
  · rw [h2 i hi] at h; cases h
  · unfold Lib.contains; rw [h1]; exact decide_eq_true (by omega)
theorem contains_none {s sub : List UInt8} (h0 : sub ≠ []) (h : ∀ j, j + sub.length ≤ s.length → Lib.occAt s sub j = false) : Lib.contains s sub = false := by
  rcases Lib.index_spec s sub with ⟨h1, _⟩ | ⟨j, h1, h2, h3, _⟩
  · unfold Lib.contains; rw [h1]; rfl
  · rcases Lib.occAt_room h3 with hr | hr
    · rw [h j hr] at h3; cases h3
    · exact absurd hr h0
theorem spec_l10Has_l0 (s p : ByteArray) (hs : s.size ≤ 1048576) (hp0 : 1 ≤ p.size) (hp : p.size ≤ 1048576) : ∀ (n k i : Nat), n + 1 ≤ k → i + n = s.size + 1 → (∀ j, j < i → Lib.occAt (bs s) (bs p) j = false) → spec_l10Has.l0 k s p (i : Int) = some (Lib.contains (bs s) (bs p)) := by
  have hne : bs p ≠ [] := fun e => by have := bs_nil.1 e; omega
  have last : ∀ (k i : Nat), 1 ≤ k → s.size < i + p.size → i ≤ s.size + 1 → (∀ j, j < i → Lib.occAt (bs s) (bs p) j = false) → spec_l10Has.l0 k s p (i : Int) = some (Lib.contains (bs s) (bs p)) := by
    intro k i hk h1 h2 hn
    obtain ⟨k, rfl⟩ : ∃ k', k = k' + 1 := ⟨k - 1, by omega⟩
    have hw : wrap64 ((i : Int) + (p.size : Int)) = ((i + p.size : Nat) : Int) := by rw [wrap64_id (by omega) (by omega)]; omega
    rw [spec_l10Has.l0, hw, if_neg (by omega), contains_none hne (fun j hj => hn j (by rw [bs_length, bs_length] at hj; omega))]
  intro n
  induction n with
  | zero => exact fun k i hk hi hn => last k i hk (by omega) (by omega) hn
  | succ n ih =>
    intro k i hk hi hn
    by_cases hr : i + p.size ≤ s.size
    · obtain ⟨k, rfl⟩ : ∃ k', k = k' + 1 := ⟨k - 1, by omega⟩
      have hw : wrap64 ((i : Int) + (p.size : Int)) = ((i + p.size : Nat) : Int) := by rw [wrap64_id (by omega) (by omega)]; omega
      have hw1 : wrap64 ((i : Int) + 1) = ((i + 1 : Nat) : Int) := by rw [wrap64_id (by omega) (by omega)]; omega
      rw [spec_l10Has.l0, hw, if_pos (by omega), if_pos (by omega), if_pos (by omega), Int.toNat_natCast, Int.toNat_natCast]
      by_cases ho : Lib.occAt (bs s) (bs p) i = true
      · rw [if_pos ((occ_extract s p i).2 ho), contains_at (by rw [bs_length]; omega) ho]
      · rw [if_neg (fun e => ho ((occ_extract s p i).1 e)), hw1]
        refine ih k (i + 1) (by omega) (by omega) (fun j hj => ?_)
        by_cases e : j = i
        · rw [e]; exact Bool.eq_false_iff.2 ho
        · exact hn j (by omega)
    · exact last k i (by omega) (by omega) (by omega) hn
theorem spec_l10Has_eq (s p : ByteArray) (hs : s.size ≤ 1048576) (hp0 : 1 ≤ p.size) (hp : p.size ≤ 1048576) (k : Nat) (hk : s.size + 2 ≤ k) : spec_l10Has.f k s p = some (Lib.contains (bs s) (bs p)) :=
  spec_l10Has_l0 s p hs hp0 hp (s.size + 1) k 0 (by omega) (by omega) (fun j hj => absurd hj (Nat.not_lt_zero j))
def addS : List ByteArray → ByteArray → List ByteArray
  | [], s => [s]
  | a :: l, s => if less a s = true then a :: addS l s else if a = s then a :: l else s :: a :: l
theorem rdOf_app (pre suf : List ByteArray) (a z : ByteArray) : rdOf z (pre ++ a :: suf) (pre.length : Int) = a := by simp [rdOf]
theorem addS_length (l : List ByteArray) (s : ByteArray) : (addS l s).length ≤ l.length + 1 := by
  induction l with
  | nil => exact Nat.le_refl _
  | cons a l ih => unfold addS; split <;> (try split) <;> simp <;> omega
theorem toList_inj {a b : ByteArray} : a.toList = b.toList ↔ a = b := ⟨fun h => bs_inj (by rw [← toList_bs, ← toList_bs, h]), fun h => by rw [h]⟩
theorem spec_l3Add_l0 (s : ByteArray) : ∀ (suf pre : List ByteArray) (k : Nat), suf.length + 1 ≤ k → pre.length + suf.length ≤ 1048576 → spec_l3Add.l0 k (pre ++ suf) s (pre.length : Int) = some (pre ++ addS suf s) := by
  intro suf
  induction suf with
  | nil =>
    intro pre k hk hl
    obtain ⟨k, rfl⟩ : ∃ k', k = k' + 1 := ⟨k - 1, by omega⟩
    simp only [List.length_nil] at hl
    rw [spec_l3Add.l0, if_neg (by simp)]
    simp only [Option.bind_some, List.append_nil, List.nil_append, List.length_nil, Int.toNat_natCast, List.take_length, List.drop_length]
    rw [if_pos (by omega), if_pos (by omega), if_pos (by omega), if_pos (by omega), if_pos (by simp; omega)]
    rfl
  | cons a suf ih =>
    intro pre k hk hl
    obtain ⟨k, rfl⟩ : ∃ k', k = k' + 1 := ⟨k - 1, by omega⟩
    simp only [List.length_cons] at hl hk
    have hw1 : wrap64 ((pre.length : Int) + 1) = (((pre ++ [a]).length : Nat) : Int) := by rw [wrap64_id (by omega) (by omega)]; simp
    rw [spec_l3Add.l0, if_pos (by simp; omega), if_pos (by omega), rdOf_app, bl_less, hw1]
    unfold addS
    by_cases h1 : less a s = true
    · rw [if_pos h1, if_pos h1, show pre ++ a :: suf = (pre ++ [a]) ++ suf by simp, ih (pre ++ [a]) k (by omega) (by simp; omega)]
      simp
    · rw [if_neg h1, if_neg h1]
      by_cases h2 : a = s
      · rw [if_pos (toList_inj.2 h2), if_pos h2]
      · rw [if_neg (fun e => h2 (toList_inj.1 e)), if_neg h2]
        simp only [Option.bind_some, List.nil_append, List.length_nil, Int.toNat_natCast, List.take_left, List.drop_left]
        rw [if_pos (by simp; omega), if_pos (by omega), if_pos (by omega), if_pos (by simp; omega)]
        simp
theorem spec_l3Add_eq (l : List ByteArray) (s : ByteArray) (hl : l.length ≤ 1048576) (k : Nat) (hk : l.length + 1 ≤ k) : spec_l3Add.f k l s = some (addS l s) := spec_l3Add_l0 s l [] k hk (by simpa using hl)
theorem mem_addS {l : List ByteArray} {s x : ByteArray} : x ∈ addS l s ↔ x ∈ l ∨ x = s := by
  induction l with
  | nil => simp [addS]
  | cons a l ih =>
    unfold addS
    split
    · rw [List.mem_cons, ih, List.mem_cons, or_assoc]
    · split
      · rename_i _ h; subst h; exact ⟨.inl, fun h => h.elim id fun e => by rw [e]; exact List.mem_cons_self⟩
      · simp only [List.mem_cons]
        exact ⟨fun h => h.elim .inr .inl, fun h => h.elim .inr .inl⟩
theorem addS_sorted {l : List ByteArray} {s : ByteArray} (h : l.Pairwise fun a b => less a b = true) : (addS l s).Pairwise fun a b => less a b = true := by
  induction l with
  | nil => simp [addS]
  | cons a l ih =>
    obtain ⟨h1, h2⟩ := List.pairwise_cons.1 h
    unfold addS
    by_cases c1 : less a s = true
    · rw [if_pos c1]
      refine List.pairwise_cons.2 ⟨fun x hx => ?_, ih h2⟩
      rcases mem_addS.1 hx with hx | hx
      · exact h1 x hx
      · rw [hx]; exact c1
    · rw [if_neg c1]
      by_cases c2 : a = s
      · rw [if_pos c2]; exact h
      · rw [if_neg c2]
        have c3 : less s a = true := by
          cases c : less s a
          · exact absurd (less_tri (Bool.eq_false_iff.2 c1) c) c2
          · rfl
        refine List.pairwise_cons.2 ⟨fun x hx => ?_, h⟩
        rcases List.mem_cons.1 hx with hx | hx
        · rw [hx]; exact c3
        · exact less_trans c3 (h1 x hx)
theorem sorted_ext : ∀ {l m : List ByteArray}, (l.Pairwise fun a b => less a b = true) → (m.Pairwise fun a b => less a b = true) → (∀ x, x ∈ l ↔ x ∈ m) → l = m
  | [], [], _, _, _ => rfl
  | [], b :: m, _, _, h => absurd ((h b).2 List.mem_cons_self) (by simp)
  | a :: l, [], _, _, h => absurd ((h a).1 List.mem_cons_self) (by simp)
  | a :: l, b :: m, hl, hm, h => by
    obtain ⟨l1, l2⟩ := List.pairwise_cons.1 hl
    obtain ⟨m1, m2⟩ := List.pairwise_cons.1 hm
    have hab : a = b := by
      rcases List.mem_cons.1 ((h a).1 List.mem_cons_self) with e | e
      · exact e
      · rcases List.mem_cons.1 ((h b).2 List.mem_cons_self) with e' | e'
        · exact e'.symm
        · have := less_asymm (m1 a e); rw [l1 b e'] at this; cases this
    subst hab
    congr 1
    refine sorted_ext l2 m2 (fun x => ?_)
    constructor
    · intro hx
      rcases List.mem_cons.1 ((h x).1 (List.mem_cons_of_mem _ hx)) with e | e
      · have := l1 x hx; rw [e, less_irrefl] at this; cases this
      · exact e
    · intro hx
      rcases List.mem_cons.1 ((h x).2 (List.mem_cons_of_mem _ hx)) with e | e
      · have := m1 x hx; rw [e, less_irrefl] at this; cases this
      · exact e
theorem fold_addS (l : List ByteArray) : ∀ acc : List ByteArray, (acc.Pairwise fun a b => less a b = true) → ((l.foldl addS acc).Pairwise fun a b => less a b = true) ∧ (∀ x, x ∈ l.foldl addS acc ↔ x ∈ acc ∨ x ∈ l) ∧ (l.foldl addS acc).length ≤ acc.length + l.length := by
  induction l with
  | nil => exact fun acc h => ⟨h, fun x => by simp, Nat.le_refl _⟩
  | cons a l ih =>
    intro acc h
    obtain ⟨h1, h2, h3⟩ := ih _ (addS_sorted (s := a) h)
    refine ⟨h1, fun x => ?_, ?_⟩
    · rw [List.foldl_cons, h2 x, mem_addS, List.mem_cons, or_assoc]
    · rw [List.foldl_cons]
      have := addS_length acc a
      simp only [List.length_cons]; omega
theorem less_lt {a b : ByteArray} (h : a.data.toList < b.data.toList) : less a b = true := by
  unfold less bs
  rw [bytesLess_eq]
  exact decide_eq_true h
theorem skeys_fold (l : List ByteArray) : skeys (l.map fun a => (a, (1 : Int))) = l.foldl addS [] := by
  obtain ⟨h1, h2, _⟩ := fold_addS l [] List.Pairwise.nil
  refine sorted_ext ((pairwise_skeys _).imp less_lt) h1 (fun x => ?_)
  rw [mem_skeys, h2 x]
  constructor
  · rintro ⟨p, hp, rfl⟩
    obtain ⟨a, ha, rfl⟩ := List.mem_map.1 hp
    exact .inr ha
  · rintro (h | h)
    · cases h
    · exact ⟨(x, 1), List.mem_map.2 ⟨x, h, rfl⟩, rfl⟩
end Go.Proofs.YtikjbfjnbhaljaaGreatDoor.P
end

section
set_option linter.unusedVariables false
set_option linter.unusedSimpArgs false
namespace Go.Proofs.YtikjbfjnbhaljaaGreatDoor.P
open Go.RowKit Go.Proofs.YtikjbfjnbhaljaaGreatDoorW.PrintWords Go.Proofs.YtikjbfjnbhaljaaGreatDoorW.PrintLast Go.Proofs.YtikjbfjnbhaljaaGreatDoorW.PrintMore Go.Proofs.YtikjbfjnbhaljaaGreatDoorM
noncomputable def addrOk (a : ByteArray) : Bool := (impl_AddressOk.f 70 a).getD false
theorem addr_eq (a : ByteArray) (k : Nat) (hk : 70 ≤ k) : impl_AddressOk.f k a = some (addrOk a) ∧ spec_AddressOk.f k a = some (addrOk a) ∧ (addrOk a = true → 15 ≤ a.size) := by
  obtain ⟨b, h1, h2, h3⟩ := AddressOk_both a k hk
  obtain ⟨b0, g1, _, _⟩ := AddressOk_both a 70 (Nat.le_refl _)
  have e : impl_AddressOk.f k a = some b0 := at_rounds (impl_AddressOk.mono a) hk g1
  have eb : b0 = b := Option.some.inj (e.symm.trans h1)
  have ea : addrOk a = b := by unfold addrOk; rw [g1]; exact eb
  rw [ea]; exact ⟨h1, h2, h3⟩
def hitFrom (t : List S57) (a : ByteArray) (j : Nat) : Bool := (t.drop j).any fun e => Lib.contains (bs e.f2) (bs (a.extract 0 13))
theorem hit_end (t : List S57) (a : ByteArray) : hitFrom t a t.length = false := by simp [hitFrom]
theorem hit_step (t : List S57) (a : ByteArray) (j : Nat) (h : j < t.length) : hitFrom t a j = (Lib.contains (bs (gd t j).f2) (bs (a.extract 0 13)) || hitFrom t a (j + 1)) := by
  unfold hitFrom
  rw [List.drop_eq_getElem_cons h, List.any_cons, gd_get t j h]
noncomputable def refsOf (t : List S57) (l : List ByteArray) : List ByteArray := l.filter fun a => addrOk a && hitFrom t a 0
theorem refs_step (t : List S57) (l : List ByteArray) (i : Nat) (h : i < l.length) : refsOf t (l.drop i) = if (addrOk l[i] && hitFrom t l[i] 0) = true then l[i] :: refsOf t (l.drop (i + 1)) else refsOf t (l.drop (i + 1)) := by
  unfold refsOf
  rw [List.drop_eq_getElem_cons h, List.filter_cons]
theorem extract_size (a : ByteArray) (h : 13 ≤ a.size) : (a.extract 0 13).size = 13 := by
  rw [← bs_length, bs_upto, List.length_take, bs_length]; omega
theorem rdB_at (l : List ByteArray) (i : Nat) (h : i < l.length) : rdOf ByteArray.empty l (i : Int) = l[i] := by simp [rdOf, List.getD_eq_getElem?_getD, List.getElem?_eq_getElem h]
theorem spec_refs_l1 (t : List S57) (ht : t.length ≤ 1048576) (hz : ∀ i, (gd t i).f2.size ≤ 1048576) (l : List ByteArray) (i : Nat) (hi : i < l.length) (hl : l.length ≤ 1048576) (ha : 13 ≤ l[i].size)
    (acc : List ByteArray) (hacc : acc.length ≤ 1048576) (K : Nat) (hK : 1048600 ≤ K) (R : List ByteArray) : ∀ (n k j : Nat), n + K + 1 ≤ k → j + n = t.length →
    (∀ k', K ≤ k' → spec_l10Refs.l0 k' t l (if hitFrom t l[i] j = true then addS acc l[i] else acc) ((i + 1 : Nat) : Int) = some R) → spec_l10Refs.l1 k t l acc (i : Int) (j : Int) = some R := by
  have Hwi : Aside0 (wrap64 ((i : Int) + 1) = ((i + 1 : Nat) : Int)) := Aside0.mk (by rw [wrap64_id (by omega) (by omega)]; omega)
  intro n
  induction n with
  | zero =>
    intro k j hk hj h
    obtain ⟨k, rfl⟩ : ∃ k', k = k' + 1 := ⟨k - 1, by omega⟩
    obtain rfl : j = t.length := by omega
    rw [spec_l10Refs.l1, if_neg (by omega), Hwi.out]
    have h1 := h k (by omega)
    rw [hit_end, if_neg (by simp)] at h1
    exact h1
  | succ n ih =>
    intro k j hk hj h
    obtain ⟨k, rfl⟩ : ∃ k', k = k' + 1 := ⟨k - 1, by omega⟩
    have Hwj : Aside0 (wrap64 ((j : Int) + 1) = ((j + 1 : Nat) : Int)) := Aside0.mk (by rw [wrap64_id (by omega) (by omega)]; omega)
    have hzj := hz j
    rw [spec_l10Refs.l1, if_pos (by omega), if_pos (by omega), if_pos (by omega), if_pos (by omega), if_pos (by omega), rdB_at l i hi, if_pos (by omega), rd_gd, spec_l10Has_eq _ _ hzj (by rw [extract_size _ ha]; omega) (by rw [extract_size _ ha]; omega) k (by omega), Option.bind_some, Hwi.out, Hwj.out]
    rw [hit_step t _ j (by omega)] at h
    by_cases c : Lib.contains (bs (gd t j).f2) (bs (l[i].extract 0 13)) = true
    · rw [if_pos c, spec_l3Add_eq _ _ hacc k (by omega), Option.bind_some]
      have h1 := h k (by omega)
      rw [c, Bool.true_or, if_pos rfl] at h1
      exact h1
    · rw [if_neg c]
      rw [Bool.eq_false_iff.2 c, Bool.false_or] at h
      exact ih k (j + 1) (by omega) (by omega) h
theorem spec_refs_l0 (t : List S57) (ht : t.length ≤ 1048576) (hz : ∀ i, (gd t i).f2.size ≤ 1048576) (l : List ByteArray) (hl : l.length ≤ 1048576) : ∀ (n k i : Nat) (acc : List ByteArray), n * (t.length + 3) + 1048700 ≤ k → i + n = l.length → acc.length + n ≤ 1048576 →
    spec_l10Refs.l0 k t l acc (i : Int) = some ((refsOf t (l.drop i)).foldl addS acc) := by
  intro n
  induction n with
  | zero =>
    intro k i acc hk hi hacc
    obtain ⟨k, rfl⟩ : ∃ k', k = k' + 1 := ⟨k - 1, by omega⟩
    rw [spec_l10Refs.l0, if_neg (by omega), List.drop_eq_nil_of_le (by omega)]
    rfl
  | succ n ih =>
    intro k i acc hk hi hacc
    obtain ⟨k, rfl⟩ : ∃ k', k = k' + 1 := ⟨k - 1, by omega⟩
    have hil : i < l.length := by omega
    have Hwi : Aside0 (wrap64 ((i : Int) + 1) = ((i + 1 : Nat) : Int)) := Aside0.mk (by rw [wrap64_id (by omega) (by omega)]; omega)
    have hmul : (n + 1) * (t.length + 3) = n * (t.length + 3) + (t.length + 3) := Nat.succ_mul _ _
    obtain ⟨K, hKd⟩ : ∃ K, K = n * (t.length + 3) + 1048700 := ⟨_, rfl⟩
    obtain ⟨_, a2, a3⟩ := addr_eq l[i] k (by omega)
    rw [spec_l10Refs.l0, if_pos (by omega), if_pos (by omega), rdB_at l i hil, a2, Option.bind_some, refs_step t l i hil]
    by_cases c : addrOk l[i] = true
    · rw [if_pos c]
      have hs := a3 c
      refine spec_refs_l1 t ht hz l i hil hl (by omega) acc (by omega) K (by omega) _ t.length k 0 (by omega) (by omega) (fun k' hk' => ?_)
      rw [c, Bool.true_and]
      by_cases c2 : hitFrom t l[i] 0 = true
      · rw [if_pos c2, if_pos c2, List.foldl_cons]
        exact ih k' (i + 1) _ (by omega) (by omega) (by have := addS_length acc l[i]; omega)
      · rw [if_neg c2, if_neg c2]
        exact ih k' (i + 1) _ (by omega) (by omega) (by omega)
    · rw [if_neg c, Hwi.out, Bool.eq_false_iff.2 c, Bool.false_and, if_neg (by simp)]
      exact ih k (i + 1) _ (by omega) (by omega) (by omega)
theorem spec_refs_eq (t : List S57) (ht : t.length ≤ 1048576) (hz : ∀ i, (gd t i).f2.size ≤ 1048576) (l : List ByteArray) (hl : l.length ≤ 1048576) (k : Nat) (hk : l.length * (t.length + 3) + 1048700 ≤ k) :
    spec_l10Refs.f k t l = some ((refsOf t l).foldl addS []) := spec_refs_l0 t ht hz l hl l.length k 0 [] hk (by omega) (by simpa using hl)
theorem contains_eq (s p : ByteArray) (hs : s.size ≤ 1048576) : strings_Contains.f s p = some (Lib.contains (bs s) (bs p)) := by
  unfold strings_Contains.f
  rw [if_pos (by omega)]
  rfl
theorem impl_refs_l1 (t : List S57) (ht : t.length ≤ 1048576) (hz : ∀ i, (gd t i).f2.size ≤ 1048576) (l : List ByteArray) (i : Nat) (hi : i < l.length) (hl : l.length ≤ 1048576) (ha : 13 ≤ l[i].size) (hb : l[i].size ≤ 1048576)
    (m : List (ByteArray × Int)) (hm : m.length ≤ 1048576) (K : Nat) (R : List ByteArray) : ∀ (n k j : Nat), n + K + 1 ≤ k → j + n = t.length →
    (∀ k', K ≤ k' → impl_RefsIn.l0 k' t (if hitFrom t l[i] j = true then m ++ [(l[i], 1)] else m) l (l.length : Int) ((i + 1 : Nat) : Int) = some R) → impl_RefsIn.l1 k t m l[i] l (l.length : Int) (i : Int) t (t.length : Int) (j : Int) = some R := by
  have Hwi : Aside0 (wrap64 ((i : Int) + 1) = ((i + 1 : Nat) : Int)) := Aside0.mk (by rw [wrap64_id (by omega) (by omega)]; omega)
  intro n
  induction n with
  | zero =>
    intro k j hk hj h
    obtain ⟨k, rfl⟩ : ∃ k', k = k' + 1 := ⟨k - 1, by omega⟩
    obtain rfl : j = t.length := by omega
    rw [impl_RefsIn.l1, if_neg (by omega), Hwi.out]
    have h1 := h k (by omega)
    rw [hit_end, if_neg (by simp)] at h1
    exact h1
  | succ n ih =>
    intro k j hk hj h
    obtain ⟨k, rfl⟩ : ∃ k', k = k' + 1 := ⟨k - 1, by omega⟩
    have Hwj : Aside0 (wrap64 ((j : Int) + 1) = ((j + 1 : Nat) : Int)) := Aside0.mk (by rw [wrap64_id (by omega) (by omega)]; omega)
    have hzj := hz j
    rw [impl_RefsIn.l1, if_pos (by omega), if_pos (by omega), if_pos (by omega), if_pos (by omega), if_pos (by omega), rd_gd, contains_eq _ _ hzj, Option.bind_some, Hwi.out, Hwj.out]
    rw [hit_step t _ j (by omega)] at h
    by_cases c : Lib.contains (bs (gd t j).f2) (bs (l[i].extract 0 13)) = true
    · rw [if_pos c, if_pos (by omega), if_pos (by omega)]
      have h1 := h k (by omega)
      rw [c, Bool.true_or, if_pos rfl] at h1
      exact h1
    · rw [if_neg c]
      rw [Bool.eq_false_iff.2 c, Bool.false_or] at h
      exact ih k (j + 1) (by omega) (by omega) h
theorem impl_refs_l0 (t : List S57) (ht : t.length ≤ 1048576) (hz : ∀ i, (gd t i).f2.size ≤ 1048576) (l : List ByteArray) (hl : l.length ≤ 1048576) (hb : ∀ a ∈ l, a.size ≤ 1048576) : ∀ (n k i : Nat) (m : List (ByteArray × Int)), n * (t.length + 3) + 1048700 ≤ k → i + n = l.length → m.length + n ≤ 1048576 →
    impl_RefsIn.l0 k t m l (l.length : Int) (i : Int) = some (skeys (m ++ (refsOf t (l.drop i)).map fun a => (a, (1 : Int)))) := by
  intro n
  induction n with
  | zero =>
    intro k i m hk hi hm
    obtain ⟨k, rfl⟩ : ∃ k', k = k' + 1 := ⟨k - 1, by omega⟩
    rw [impl_RefsIn.l0, if_neg (by omega), List.drop_eq_nil_of_le (by omega)]
    unfold impl_sorted.f
    rw [if_pos (by omega), Option.bind_some]
    simp [refsOf]
  | succ n ih =>
    intro k i m hk hi hm
    obtain ⟨k, rfl⟩ : ∃ k', k = k' + 1 := ⟨k - 1, by omega⟩
    have hil : i < l.length := by omega
    have Hwi : Aside0 (wrap64 ((i : Int) + 1) = ((i + 1 : Nat) : Int)) := Aside0.mk (by rw [wrap64_id (by omega) (by omega)]; omega)
    have hmul : (n + 1) * (t.length + 3) = n * (t.length + 3) + (t.length + 3) := Nat.succ_mul _ _
    obtain ⟨K, hKd⟩ : ∃ K, K = n * (t.length + 3) + 1048700 := ⟨_, rfl⟩
    obtain ⟨a1, _, a3⟩ := addr_eq l[i] k (by omega)
    rw [impl_RefsIn.l0, if_pos (by omega), if_pos (by omega), if_pos (by omega), rdB_at l i hil, a1, Option.bind_some, refs_step t l i hil]
    by_cases c : addrOk l[i] = true
    · rw [if_pos c]
      have hs := a3 c
      refine impl_refs_l1 t ht hz l i hil hl (by omega) (hb _ (List.getElem_mem hil)) m (by omega) K _ t.length k 0 (by omega) (by omega) (fun k' hk' => ?_)
      rw [c, Bool.true_and]
      by_cases c2 : hitFrom t l[i] 0 = true
      · rw [if_pos c2, if_pos c2, ih k' (i + 1) _ (by omega) (by omega) (by simp; omega)]
        simp
      · rw [if_neg c2, if_neg c2]
        exact ih k' (i + 1) _ (by omega) (by omega) (by omega)
    · rw [if_neg c, Hwi.out, Bool.eq_false_iff.2 c, Bool.false_and, if_neg (by simp)]
      exact ih k (i + 1) _ (by omega) (by omega) (by omega)
theorem refs_both (t : List S57) (hok : treeOk t) (hz : ∀ i, (gd t i).f0.size ≤ 1048576 ∧ (gd t i).f2.size ≤ 1048576) (l : List ByteArray) (hl : l.length ≤ 2000) (hb : ∀ a ∈ l, a.size ≤ 1048576) (k : Nat) (hk : 4000000 ≤ k) :
    ∃ r, impl_RefsIn.f k t l = some r ∧ spec_l10Refs.f k t l = some r ∧ r.length ≤ 2000 := by
  have ht : t.length ≤ 500 := hok.1
  have hmul : l.length * (t.length + 3) ≤ 2000 * 503 := Nat.mul_le_mul hl (by omega)
  refine ⟨(refsOf t l).foldl addS [], ?_, spec_refs_eq t (by omega) (fun i => (hz i).2) l (by omega) k (by omega), ?_⟩
  · obtain ⟨b, h1, h2⟩ := impl_TreeOk_eq t (fun i => (hz i).1) k (by omega)
    obtain ⟨k, rfl⟩ : ∃ k', k = k' + 1 := ⟨k - 1, by omega⟩
    unfold impl_RefsIn.f
    rw [h1, Option.bind_some, if_pos (h2.2 hok), impl_RefsIn.j0, if_neg (by simp; omega)]
    have h := impl_refs_l0 t (by omega) (fun i => (hz i).2) l (by omega) hb l.length k 0 [] (by omega) (by omega) (by simp; omega)
    rw [List.nil_append, List.drop_zero, skeys_fold] at h
    exact h
  · have h := (fold_addS (refsOf t l) [] List.Pairwise.nil).2.2
    have h2 : (refsOf t l).length ≤ l.length := List.length_filter_le _ _
    simp only [List.length_nil] at h
    omega
end Go.Proofs.YtikjbfjnbhaljaaGreatDoor.P
end

section
set_option linter.unusedVariables false
set_option linter.unusedSimpArgs false
namespace Go.Proofs.YtikjbfjnbhaljaaGreatDoor.P
open Go.RowKit Go.Proofs.YtikjbfjnbhaljaaGreatDoorW.PrintWords Go.Proofs.YtikjbfjnbhaljaaGreatDoorW.PrintLast Go.Proofs.YtikjbfjnbhaljaaGreatDoorM
theorem bits_i64_nat (op : BinOp) (x y : Nat) (hx : x < 9223372036854775808) (hy : y < 9223372036854775808) :
    Go.bits .and .i64 (x : Int) (y : Int) = ((x &&& y : Nat) : Int) ∧ Go.bits .or .i64 (x : Int) (y : Int) = ((x ||| y : Nat) : Int) := by
  have hbx : (BitVec.ofInt 64 (x : Int)).toNat = x := by rw [BitVec.toNat_ofInt]; omega
  have hby : (BitVec.ofInt 64 (y : Int)).toNat = y := by rw [BitVec.toNat_ofInt]; omega
  have hand : x &&& y < 9223372036854775808 := Nat.lt_of_le_of_lt Nat.and_le_left hx
  have hor : x ||| y < 9223372036854775808 := Nat.or_lt_two_pow (n := 63) hx hy
  constructor
  · unfold Go.bits
    show IntKind.i64.wrap (((BitVec.ofInt 64 (x : Int)) &&& (BitVec.ofInt 64 (y : Int))).toNat : Int) = _
    rw [BitVec.toNat_and, hbx, hby, i64_w, wrap64_id (by omega) (by omega)]
  · unfold Go.bits
    show IntKind.i64.wrap (((BitVec.ofInt 64 (x : Int)) ||| (BitVec.ofInt 64 (y : Int))).toNat : Int) = _
    rw [BitVec.toNat_or, hbx, hby, i64_w, wrap64_id (by omega) (by omega)]
theorem varint_byte (v : Nat) (hv : v < 9223372036854775808) : Go.bits .or .i64 (Go.bits .and .i64 (v : Int) 127) 128 = ((v % 128 + 128 : Nat) : Int) := by
  have h1 := (bits_i64_nat .and v 127 hv (by omega)).1
  rw [show ((127 : Nat) : Int) = 127 from rfl] at h1
  have e1 : v &&& 127 = v % 128 := Nat.and_two_pow_sub_one_eq_mod v 7
  rw [h1, e1]
  have h2 := (bits_i64_nat .or (v % 128) 128 (by omega) (by omega)).2
  rw [show ((128 : Nat) : Int) = 128 from rfl] at h2
  have e2 : v % 128 ||| 128 = v % 128 + 128 := Nat.or_two_pow_eq_add_of_lt (n := 7) (by omega)
  rw [h2, e2]
def vi : Nat → Nat → List Int
  | 0, _ => []
  | k + 1, v => if 128 ≤ v then ((v % 128 + 128 : Nat) : Int) :: vi k (v / 128) else [(v : Int)]
theorem vi_length : ∀ k v, (vi k v).length ≤ k
  | 0, _ => by simp [vi]
  | k + 1, v => by
    rw [vi]
    split
    · simpa using vi_length k (v / 128)
    · simp
theorem impl_varint_eq : ∀ (n k v : Nat) (l : List Int), n ≤ k → v < 128 ^ n → 0 < n → n ≤ 9 → l.length + n < 140737488355328 → impl_varint.f k l (v : Int) = some (l ++ vi n v) := by
  intro n
  induction n with
  | zero => intro k v l _ _ h; omega
  | succ n ih =>
    intro k v l hk hv _ hn9 hl
    obtain ⟨k, rfl⟩ : ∃ k', k = k' + 1 := ⟨k - 1, by omega⟩
    have hv63 : v < 9223372036854775808 := Nat.lt_of_lt_of_le hv (Nat.le_trans (Nat.pow_le_pow_right (by decide) hn9) (by decide))
    unfold impl_varint.f
    rw [impl_varint.l0, vi]
    by_cases h : 128 ≤ v
    · rw [if_pos (by omega), if_pos (by omega), if_pos h, varint_byte v hv63]
      have e : ((v % 128 + 128 : Nat) : Int) % 256 = ((v % 128 + 128 : Nat) : Int) := by omega
      have e2 : (v : Int) / 128 = ((v / 128 : Nat) : Int) := by omega
      have hn : 0 < n := by
        rcases Nat.eq_zero_or_pos n with h0 | h0
        · subst h0; simp at hv; omega
        · exact h0
      have := ih k (v / 128) (l ++ [((v % 128 + 128 : Nat) : Int)]) (by omega) (by rw [Nat.pow_succ] at hv; omega) hn (by omega) (by simp; omega)
      unfold impl_varint.f at this
      rw [e, e2, this]
      simp
    · rw [if_neg (by omega), if_pos (by omega), if_neg h]
      have e : (v : Int) % 256 = (v : Int) := by omega
      rw [e]
theorem spec_l10Num_eq : ∀ (n k v : Nat) (l : List Int), n ≤ k → v < 128 ^ n → 0 < n → n ≤ 9 → l.length + n < 140737488355328 → spec_l10Num.f k l (v : Int) = some (l ++ vi n v) := by
  intro n
  induction n with
  | zero => intro k v l _ _ h; omega
  | succ n ih =>
    intro k v l hk hv _ hn9 hl
    obtain ⟨k, rfl⟩ : ∃ k', k = k' + 1 := ⟨k - 1, by omega⟩
    have hv63 : v < 9223372036854775808 := Nat.lt_of_lt_of_le hv (Nat.le_trans (Nat.pow_le_pow_right (by decide) hn9) (by decide))
    unfold spec_l10Num.f
    rw [spec_l10Num.l0, vi]
    by_cases h : 128 ≤ v
    · have e : (wrap64 (Int.tmod (v : Int) 128 + 128)) % 256 = ((v % 128 + 128 : Nat) : Int) := by
        rw [Int.tmod_eq_emod_of_nonneg (by omega), wrap64_id (by omega) (by omega)]
        omega
      have e2 : wrap64 (Int.tdiv (v : Int) 128) = ((v / 128 : Nat) : Int) := by
        rw [Int.tdiv_eq_ediv_of_nonneg (by omega), wrap64_id (by omega) (by omega)]
        omega
      rw [if_pos (by omega), if_pos (by omega), if_pos h, e, e2]
      have hn : 0 < n := by
        rcases Nat.eq_zero_or_pos n with h0 | h0
        · subst h0; simp at hv; omega
        · exact h0
      have := ih k (v / 128) (l ++ [((v % 128 + 128 : Nat) : Int)]) (by omega) (by rw [Nat.pow_succ] at hv; omega) hn (by omega) (by simp; omega)
      unfold spec_l10Num.f at this
      rw [this]
      simp
    · rw [if_neg (by omega), if_pos (by omega), if_neg h]
      have e : (v : Int) % 256 = (v : Int) := by omega
      rw [e]
def tx (s : ByteArray) : List Int := vi 4 s.size ++ bytesOf s
theorem tx_length (s : ByteArray) : (tx s).length ≤ 4 + s.size := by
  have := vi_length 4 s.size
  rw [tx, List.length_append, bytesOf_length]
  omega
theorem spec_l10Text_eq (k : Nat) (l : List Int) (s : ByteArray) (hk : 4 ≤ k) (hs : s.size ≤ 1048576) (hl : l.length ≤ 70368744177664) : spec_l10Text.f k l s = some (l ++ tx s) := by
  unfold spec_l10Text.f
  have hv := vi_length 4 s.size
  have hb := bytesOf_length s
  rw [spec_l10Num_eq 4 k s.size l hk (by omega) (by omega) (by omega) (by omega), Option.bind_some, if_pos (by omega), Option.bind_some, if_pos (by rw [List.length_append]; omega), tx]
  simp
def kb (e : S57) : Int := if e.f3 = true then ((e.f1 % 256) + 16) % 256 else e.f1 % 256
def pk (t : List S57) : Nat → Nat → List Int
  | 0, _ => []
  | n + 1, i => (kb (gd t i) :: (tx (gd t i).f0 ++ tx (gd t i).f2)) ++ pk t n (i + 1)
theorem impl_PackTree_l0 (t : List S57) (hl : t.length ≤ 500) (hz : ∀ i, (gd t i).f0.size ≤ 1048576 ∧ (gd t i).f2.size ≤ 1048576) : ∀ (n k i : Nat) (acc : List Int), n + 5 ≤ k → i + n = t.length → acc.length ≤ 4194304 * (i + 1) →
    impl_PackTree.l0 k acc t (t.length : Int) (i : Int) = some (acc ++ pk t n i) := by
  intro n
  induction n with
  | zero =>
    intro k i acc hk hi ha
    obtain ⟨k, rfl⟩ : ∃ k', k = k' + 1 := ⟨k - 1, by omega⟩
    rw [impl_PackTree.l0, if_neg (by omega), pk, List.append_nil]
  | succ n ih =>
    intro k i acc hk hi ha
    obtain ⟨k, rfl⟩ : ∃ k', k = k' + 1 := ⟨k - 1, by omega⟩
    have hzi := hz i
    have hw : wrap64 ((i : Int) + 1) = ((i + 1 : Nat) : Int) := by rw [wrap64_id (by omega) (by omega)]; omega
    have hv0 := vi_length 4 (gd t i).f0.size
    have hv2 := vi_length 4 (gd t i).f2.size
    have hb0 := bytesOf_length (gd t i).f0
    have hb2 := bytesOf_length (gd t i).f2
    rw [impl_PackTree.l0, if_pos (by omega), if_pos (by omega), if_pos (by omega), rd_gd, hw]
    have go : ∀ b : Int, b = kb (gd t i) → (if acc.length < 140737488355328 then ((impl_varint.f k (acc ++ [b]) ((gd t i).f0.size : Int)).bind fun u1 => (if u1.length + ((gd t i).f0).size < 140737488355328 then ((impl_varint.f k (u1 ++ bytesOf ((gd t i).f0)) (((gd t i).f2).size : Int)).bind fun u2 => (if u2.length + ((gd t i).f2).size < 140737488355328 then (impl_PackTree.l0 k (u2 ++ bytesOf ((gd t i).f2)) t (t.length : Int) ((i + 1 : Nat) : Int)) else (none))) else (none))) else none) = some (acc ++ pk t (n + 1) i) := by
      intro b hb
      rw [if_pos (by omega), impl_varint_eq 4 k _ _ (by omega) (by omega) (by omega) (by omega) (by simp; omega), Option.bind_some, if_pos (by simp; omega),
        impl_varint_eq 4 k _ _ (by omega) (by omega) (by omega) (by omega) (by simp; omega), Option.bind_some, if_pos (by simp; omega), ih k (i + 1) _ (by omega) (by omega) (by simp; omega), pk, hb, tx, tx]
      simp
    by_cases h3 : (gd t i).f3 = true
    · rw [if_pos h3]
      exact go _ (by rw [kb, if_pos h3])
    · rw [if_neg h3]
      exact go _ (by rw [kb, if_neg h3])
theorem spec_PackTree_l0 (t : List S57) (hl : t.length ≤ 500) (hz : ∀ i, (gd t i).f0.size ≤ 1048576 ∧ (gd t i).f2.size ≤ 1048576) : ∀ (n k i : Nat) (acc : List Int), n + 5 ≤ k → i + n = t.length → acc.length ≤ 4194304 * (i + 1) →
    spec_PackTree.l0 k t acc (i : Int) = some (acc ++ pk t n i) := by
  intro n
  induction n with
  | zero =>
    intro k i acc hk hi ha
    obtain ⟨k, rfl⟩ : ∃ k', k = k' + 1 := ⟨k - 1, by omega⟩
    rw [spec_PackTree.l0, if_neg (by omega), pk, List.append_nil]
  | succ n ih =>
    intro k i acc hk hi ha
    obtain ⟨k, rfl⟩ : ∃ k', k = k' + 1 := ⟨k - 1, by omega⟩
    have hzi := hz i
    have hw : wrap64 ((i : Int) + 1) = ((i + 1 : Nat) : Int) := by rw [wrap64_id (by omega) (by omega)]; omega
    have ht0 := tx_length (gd t i).f0
    have ht2 := tx_length (gd t i).f2
    rw [spec_PackTree.l0, if_pos (by omega), if_pos (by omega), rd_gd, hw]
    have go : ∀ b : Int, b = kb (gd t i) → (if acc.length < 140737488355328 then ((spec_l10Text.f k (acc ++ [b]) ((gd t i).f0)).bind fun u1 => ((spec_l10Text.f k u1 ((gd t i).f2)).bind fun u2 => (spec_PackTree.l0 k t u2 ((i + 1 : Nat) : Int)))) else none) = some (acc ++ pk t (n + 1) i) := by
      intro b hb
      rw [if_pos (by omega), spec_l10Text_eq k _ _ (by omega) hzi.1 (by simp; omega), Option.bind_some, spec_l10Text_eq k _ _ (by omega) hzi.2 (by simp; omega), Option.bind_some, ih k (i + 1) _ (by omega) (by omega) (by simp; omega), pk, hb]
      simp
    by_cases h3 : (gd t i).f3 = true
    · rw [if_pos h3]
      refine go _ ?_
      rw [kb, if_pos h3]
      unfold wrap64
      omega
    · rw [if_neg h3]
      exact go _ (by rw [kb, if_neg h3])
def packed (t : List S57) : List Int := ([76, 65, 82, 49] ++ vi 4 t.length) ++ pk t t.length 0
theorem pack_both (t : List S57) (hz : ∀ i, (gd t i).f0.size ≤ 1048576 ∧ (gd t i).f2.size ≤ 1048576) (k : Nat) (hk : 2110000 ≤ k) :
    (treeOk t ∧ impl_PackTree.f k t = some (packed t) ∧ spec_PackTree.f k t = some (packed t)) ∨ (¬ treeOk t ∧ impl_PackTree.f k t = some [] ∧ spec_PackTree.f k t = some []) := by
  obtain ⟨b1, hi1, hi2⟩ := impl_TreeOk_eq t (fun i => (hz i).1) k (by omega)
  obtain ⟨b2, hs1, hs2⟩ := spec_TreeOk_eq t (fun i => (hz i).1) k (by omega)
  unfold impl_PackTree.f spec_PackTree.f
  rw [hi1, hs1, Option.bind_some, Option.bind_some]
  by_cases hok : treeOk t
  · left
    rw [if_pos (hi2.2 hok), if_pos (hs2.2 hok)]
    have hl := hok.1
    have hv := vi_length 4 t.length
    have h1 := impl_PackTree_l0 t hl hz t.length k 0 ([76, 65, 82, 49] ++ vi 4 t.length) (by omega) (by omega) (by simp; omega)
    have h2 := spec_PackTree_l0 t hl hz t.length k 0 ([76, 65, 82, 49] ++ vi 4 t.length) (by omega) (by omega) (by simp; omega)
    rw [show ((0 : Nat) : Int) = 0 from rfl] at h1 h2
    rw [impl_varint_eq 4 k _ _ (by omega) (by omega) (by omega) (by omega) (by simp), spec_l10Num_eq 4 k _ _ (by omega) (by omega) (by omega) (by omega) (by simp), Option.bind_some, Option.bind_some, h1, h2]
    exact ⟨hok, rfl, rfl⟩
  · right
    rw [if_neg (fun h => hok (hi2.1 h)), if_neg (fun h => hok (hs2.1 h))]
    exact ⟨hok, rfl, rfl⟩
end Go.Proofs.YtikjbfjnbhaljaaGreatDoor.P
end

section
set_option linter.unusedVariables false
set_option linter.unusedSimpArgs false
namespace Go.Proofs.YtikjbfjnbhaljaaGreatDoor.P
open Go.RowKit Go.Proofs.YtikjbfjnbhaljaaGreatDoorW.PrintWords Go.Proofs.YtikjbfjnbhaljaaGreatDoorW.PrintLast Go.Proofs.YtikjbfjnbhaljaaGreatDoorM
theorem laws_eqEntryS_l0 (t : List S57) (hl : t.length ≤ 1048576) : ∀ (n k i : Nat), n + 1 ≤ k → i + n = t.length → laws_eqEntryS.l0 k t t (i : Int) = some true := by
  intro n
  induction n with
  | zero =>
    intro k i hk hi
    obtain ⟨k, rfl⟩ : ∃ k', k = k' + 1 := ⟨k - 1, by omega⟩
    rw [laws_eqEntryS.l0, if_neg (by omega)]
  | succ n ih =>
    intro k i hk hi
    obtain ⟨k, rfl⟩ : ∃ k', k = k' + 1 := ⟨k - 1, by omega⟩
    have hw : wrap64 ((i : Int) + 1) = ((i + 1 : Nat) : Int) := by rw [wrap64_id (by omega) (by omega)]; omega
    rw [laws_eqEntryS.l0, if_pos (by omega), if_pos (by omega), if_pos (by omega), hw]
    unfold laws_eqEntry.f
    rw [if_pos rfl, if_pos rfl, if_pos rfl, if_neg (by simp), Option.bind_some, if_pos rfl]
    exact ih k (i + 1) (by omega) (by omega)
theorem laws_eqEntryS_refl (t : List S57) (hl : t.length ≤ 1048576) (k : Nat) (hk : t.length + 1 ≤ k) : laws_eqEntryS.f k t t = some true := by
  unfold laws_eqEntryS.f
  rw [if_pos rfl]
  exact laws_eqEntryS_l0 t hl t.length k 0 hk (by omega)
end Go.Proofs.YtikjbfjnbhaljaaGreatDoor.P
end

section
set_option linter.unusedVariables false
set_option linter.unusedSimpArgs false
namespace Go.Proofs.YtikjbfjnbhaljaaGreatDoor.P
open Go.RowKit Go.Proofs.YtikjbfjnbhaljaaGreatDoorW.PrintWords Go.Proofs.YtikjbfjnbhaljaaGreatDoorW.PrintLast Go.Proofs.YtikjbfjnbhaljaaGreatDoorM
def gl (t : List S70) (i : Nat) : S70 := t.getD i z70
theorem rd_gl (t : List S70) (i : Nat) : rd_T70 t (i : Int) = gl t i := by simp [rd_T70, gl]
def fits (t : List S70) : Prop := t.length ≤ 9223372036854775807 ∧ ∀ i, (gl t i).f0.size ≤ 9223372036854775807 ∧ (gl t i).f2.size ≤ 9223372036854775807
theorem fits_of (t : List S70) (hl : t.length ≤ maxLen) (hg : ∀ a ∈ t, a.f0.size ≤ maxLen ∧ (Lit.int .i64 a.f1).wf = true ∧ a.f2.size ≤ maxLen ∧ True) : fits t := by
  unfold maxLen at hl hg
  refine ⟨by omega, fun i => ?_⟩
  rcases Nat.lt_or_ge i t.length with h | h
  · have hm : gl t i ∈ t := by
      unfold gl
      rw [List.getD_eq_getElem?_getD, List.getElem?_eq_getElem h]
      exact List.getElem_mem h
    have := hg _ hm
    omega
  · have : gl t i = z70 := by
      unfold gl
      rw [List.getD_eq_getElem?_getD, List.getElem?_eq_none h]; rfl
    rw [this]
    decide
def cv (e : S70) : S57 := ⟨e.f0, e.f1, e.f2, e.f3⟩
theorem gd_cv (t : List S70) (i : Nat) : gd (t.map cv) i = cv (gl t i) := by
  unfold gd gl
  rw [List.getD_eq_getElem?_getD, List.getD_eq_getElem?_getD, List.getElem?_map]
  cases t[i]? <;> rfl
theorem gl_beyond (t : List S70) (i : Nat) (h : t.length ≤ i) : gl t i = z70 := by
  unfold gl
  rw [List.getD_eq_getElem?_getD, List.getElem?_eq_none h]; rfl
theorem laws_szEntry_eq (p : ByteArray) (n : Int) (d : ByteArray) (x : Bool) (a : Int) (hp : p.size ≤ 9223372036854775807) (hd : d.size ≤ 9223372036854775807) (ha : 0 ≤ a) (hb : a ≤ 1048576) :
    ∃ r, laws_szEntry.f p n d x a = some r ∧ r ≤ a ∧ (0 ≤ r → p.size ≤ 1048576 ∧ d.size ≤ 1048576) := by
  unfold laws_szEntry.f
  rw [wrap64_id (n := a - (p.size : Int)) (by omega) (by omega)]
  by_cases h : a - (p.size : Int) < 0
  · rw [if_pos h]; exact ⟨_, rfl, by omega, by omega⟩
  · rw [if_neg h, wrap64_id (by omega) (by omega)]
    by_cases h2 : a - (p.size : Int) - (d.size : Int) < 0
    · rw [if_pos h2]; exact ⟨_, rfl, by omega, by omega⟩
    · rw [if_neg h2]; exact ⟨_, rfl, by omega, by omega⟩
theorem laws_toEntryS_l0 (t : List S70) (hl : t.length ≤ 1048576) : ∀ (n k i : Nat), n + 1 ≤ k → i + n = t.length →
    laws_toEntryS.l0 k t ((t.take i).map cv ++ List.replicate n z57) (i : Int) = some (t.map cv) := by
  intro n
  induction n with
  | zero =>
    intro k i hk hi
    obtain ⟨k, rfl⟩ : ∃ k', k = k' + 1 := ⟨k - 1, by omega⟩
    rw [laws_toEntryS.l0, if_neg (by omega), List.take_of_length_le (by omega)]
    simp
  | succ n ih =>
    intro k i hk hi
    obtain ⟨k, rfl⟩ : ∃ k', k = k' + 1 := ⟨k - 1, by omega⟩
    have hw : wrap64 ((i : Int) + 1) = ((i + 1 : Nat) : Int) := by rw [wrap64_id (by omega) (by omega)]; omega
    have hlt : i < t.length := by omega
    have htl : ((t.take i).map cv).length = i := by simp; omega
    rw [laws_toEntryS.l0, if_pos (by omega), if_pos (by omega), rd_gl]
    unfold laws_toEntry.f
    rw [Option.bind_some, if_pos (by simp; omega), hw, Int.toNat_natCast]
    have e : ((t.take i).map cv ++ List.replicate (n + 1) z57).set i ⟨(gl t i).f0, (gl t i).f1, (gl t i).f2, (gl t i).f3⟩ = (t.take (i + 1)).map cv ++ List.replicate n z57 := by
      rw [List.set_append_right _ _ (by omega), htl, Nat.sub_self, List.replicate_succ, List.set_cons_zero, List.take_succ_eq_append_getElem hlt, List.map_append]
      simp only [List.map_cons, List.map_nil, List.append_assoc, List.singleton_append]
      have : gl t i = t[i] := by simp [gl, List.getD_eq_getElem?_getD, List.getElem?_eq_getElem hlt]
      rw [this]; rfl
    show laws_toEntryS.l0 k t (((t.take i).map cv ++ List.replicate (n + 1) z57).set i ⟨(gl t i).f0, (gl t i).f1, (gl t i).f2, (gl t i).f3⟩) _ = _
    rw [e]
    exact ih k (i + 1) (by omega) (by omega)
theorem laws_toEntryS_eq (t : List S70) (hl : t.length ≤ 1048576) (k : Nat) (hk : t.length + 1 ≤ k) : laws_toEntryS.f k t = some (t.map cv) := by
  unfold laws_toEntryS.f
  rw [if_pos (by omega), if_pos (by omega), Int.toNat_natCast]
  have := laws_toEntryS_l0 t hl t.length k 0 hk (by omega)
  simpa using this
end Go.Proofs.YtikjbfjnbhaljaaGreatDoor.P
end

section
set_option linter.unusedVariables false
set_option linter.unusedSimpArgs false
namespace Go.Proofs.YtikjbfjnbhaljaaGreatDoor.P
open Go.RowKit Go.Proofs.YtikjbfjnbhaljaaGreatDoorW.PrintWords Go.Proofs.YtikjbfjnbhaljaaGreatDoorW.PrintLast Go.Proofs.YtikjbfjnbhaljaaGreatDoorW.PrintMore Go.Proofs.YtikjbfjnbhaljaaGreatDoorM
theorem u64_id {n : Int} (h1 : 0 ≤ n) (h2 : n < 18446744073709551616) : IntKind.u64.wrap n = n := by
  have e : IntKind.u64.wrap n = n % 18446744073709551616 := by simp [IntKind.wrap, IntKind.bits, IntKind.signed]
  rw [e]; omega
theorem sum_l1 : ∀ (n k : Nat) (i h : Int), n + 1 ≤ k → 3 - i = n → 0 ≤ i → ∃ r, impl_Sum.l1 k h i = some r ∧ spec_Sum.l1 k h i = some r := by
  intro n
  induction n with
  | zero =>
    intro k i h hk hi h0
    obtain ⟨k, rfl⟩ : ∃ k', k = k' + 1 := ⟨k - 1, by omega⟩
    rw [impl_Sum.l1, spec_Sum.l1, if_neg (by omega), if_neg (by omega)]
    exact ⟨_, rfl, rfl⟩
  | succ n ih =>
    intro k i h hk hi h0
    obtain ⟨k, rfl⟩ : ∃ k', k = k' + 1 := ⟨k - 1, by omega⟩
    rw [impl_Sum.l1, spec_Sum.l1, if_pos (by omega), if_pos (by omega), wrap64_id (by omega) (by omega)]
    exact ih k (i + 1) _ (by omega) (by omega) (by omega)
theorem sum_l0 (l : List Int) (hl : l.length < 1099511627776) : ∀ (n k i : Nat) (h : Int), n + 6 ≤ k → i + n = l.length → ∃ r, impl_Sum.l0 k h l (l.length : Int) (i : Int) = some r ∧ spec_Sum.l0 k l h (i : Int) = some r := by
  intro n
  induction n with
  | zero =>
    intro k i h hk hi
    obtain ⟨k, rfl⟩ : ∃ k', k = k' + 1 := ⟨k - 1, by omega⟩
    rw [impl_Sum.l0, spec_Sum.l0, if_neg (by omega), if_neg (by omega)]
    exact sum_l1 3 k 0 h (by omega) (by omega) (by omega)
  | succ n ih =>
    intro k i h hk hi
    obtain ⟨k, rfl⟩ : ∃ k', k = k' + 1 := ⟨k - 1, by omega⟩
    have hw : wrap64 ((i : Int) + 1) = ((i + 1 : Nat) : Int) := by rw [wrap64_id (by omega) (by omega)]; omega
    rw [impl_Sum.l0, spec_Sum.l0, if_pos (by omega), if_pos (by omega), if_pos (by omega), if_pos (by omega), if_pos (by omega), hw]
    exact ih k (i + 1) _ (by omega) (by omega)
theorem sum_both (l : List Int) (hl : l.length < 1099511627776) (k : Nat) (hk : l.length + 6 ≤ k) : ∃ r, impl_Sum.f k l = some r ∧ spec_Sum.f k l = some r := by
  unfold impl_Sum.f spec_Sum.f
  exact sum_l0 l hl l.length k 0 _ (by omega) (by omega)
def lowFive (x i : Int) : Int := Go.bits .and .u64 (shr .u64 x i) 31
theorem lowFive_range (x i : Int) : 0 ≤ lowFive x i ∧ lowFive x i < 32 := by
  unfold lowFive Go.bits
  show 0 ≤ IntKind.u64.wrap (((BitVec.ofInt 64 (shr .u64 x i)) &&& (BitVec.ofInt 64 31)).toNat : Int) ∧ IntKind.u64.wrap (((BitVec.ofInt 64 (shr .u64 x i)) &&& (BitVec.ofInt 64 31)).toNat : Int) < 32
  have h : ((BitVec.ofInt 64 (shr .u64 x i)) &&& (BitVec.ofInt 64 31)).toNat ≤ 31 := by
    rw [BitVec.toNat_and]
    exact Nat.and_le_right
  rw [u64_id (by omega) (by omega)]
  omega
def digAt (x : Int) (i : Nat) : Int := bt (⟨#[48, 49, 50, 51, 52, 53, 54, 55, 56, 57, 97, 98, 99, 100, 102, 103, 104, 105, 106, 107, 108, 109, 110, 112, 113, 114, 115, 118, 119, 120, 121, 122]⟩ : ByteArray) (lowFive x (5 * (i : Int)))
theorem impl_Word32_step (k : Nat) (x : Int) (ys : List Int) (i : Nat) (h : i < 13) (hl : ys.length = 13) : impl_Word32.l0 (k + 1) x ys 13 (i : Int) = impl_Word32.l0 k x (ys.set (12 - i) (digAt x i)) 13 ((i + 1 : Nat) : Int) := by
  have hw : wrap64 ((i : Int) + 1) = ((i + 1 : Nat) : Int) := by rw [wrap64_id (by omega) (by omega)]; omega
  have h5 : wrap64 (5 * (i : Int)) = 5 * (i : Int) := wrap64_id (by omega) (by omega)
  have h12 : wrap64 (12 - (i : Int)) = ((12 - i : Nat) : Int) := by rw [wrap64_id (by omega) (by omega)]; omega
  have hr := lowFive_range x (5 * (i : Int))
  rw [impl_Word32.l0, if_pos (by omega), hw, h5, h12]
  change (if _ then if 0 ≤ lowFive x (5 * (i : Int)) then if lowFive x (5 * (i : Int)) < 32 then _ else _ else _ else _) = _
  rw [if_pos (by omega), if_pos hr.1, if_pos hr.2, if_pos (by omega), if_pos (by rw [hl]; omega)]
  rfl
theorem spec_Word32_step (k : Nat) (x : Int) (ys : List Int) (i : Nat) (h : i < 13) (hl : ys.length < 100) : spec_Word32.l0 (k + 1) x ys (i : Int) = spec_Word32.l0 k x (ys ++ [digAt x i]) ((i : Int) - 1) := by
  have hw : wrap64 ((i : Int) - 1) = (i : Int) - 1 := wrap64_id (by omega) (by omega)
  have h5 : IntKind.u64.wrap (wrap64 (5 * (i : Int))) = 5 * (i : Int) := by rw [wrap64_id (by omega) (by omega), u64_id (by omega) (by omega)]
  have hr := lowFive_range x (5 * (i : Int))
  rw [spec_Word32.l0, if_pos (by omega), hw, h5]
  change (if _ then if 0 ≤ lowFive x (5 * (i : Int)) then if lowFive x (5 * (i : Int)) < 32 then _ else _ else _ else _) = _
  rw [if_pos (by omega), if_pos hr.1, if_pos hr.2, if_pos (by omega)]
  rfl
theorem spec_Word32_run : ∀ (n k : Nat) (x : Int) (ys : List Int), n ≤ 13 → n + 1 ≤ k → ys.length + n < 100 → spec_Word32.l0 k x ys ((n : Int) - 1) = some (strOfNums (ys ++ ((List.range n).map (digAt x)).reverse)) := by
  intro n
  induction n with
  | zero =>
    intro k x ys _ hk hl
    obtain ⟨k, rfl⟩ : ∃ k', k = k' + 1 := ⟨k - 1, by omega⟩
    rw [spec_Word32.l0, if_neg (by omega)]
    simp
  | succ n ih =>
    intro k x ys hn hk hl
    obtain ⟨k, rfl⟩ : ∃ k', k = k' + 1 := ⟨k - 1, by omega⟩
    have e : ((n + 1 : Nat) : Int) - 1 = (n : Int) := by omega
    rw [e, spec_Word32_step k x ys n (by omega) (by omega), ih k x _ (by omega) (by omega) (by simp; omega), List.range_succ]
    simp
theorem impl_Word32_run : ∀ (n k : Nat) (x : Int) (i : Nat), i + n = 13 → n + 1 ≤ k →
    impl_Word32.l0 k x (List.replicate n 0 ++ ((List.range i).map (digAt x)).reverse) 13 (i : Int) = some (strOfNums ((List.range 13).map (digAt x)).reverse) := by
  intro n
  induction n with
  | zero =>
    intro k x i hi hk
    obtain ⟨k, rfl⟩ : ∃ k', k = k' + 1 := ⟨k - 1, by omega⟩
    obtain rfl : i = 13 := by omega
    rw [impl_Word32.l0, if_neg (by omega)]
    simp
  | succ n ih =>
    intro k x i hi hk
    obtain ⟨k, rfl⟩ : ∃ k', k = k' + 1 := ⟨k - 1, by omega⟩
    rw [impl_Word32_step k x _ i (by omega) (by simp; omega)]
    have e : (List.replicate (n + 1) (0 : Int) ++ ((List.range i).map (digAt x)).reverse).set (12 - i) (digAt x i) = List.replicate n 0 ++ ((List.range (i + 1)).map (digAt x)).reverse := by
      rw [List.range_succ, show 12 - i = n by omega, List.replicate_succ', List.append_assoc, List.set_append_right _ _ (by simp)]
      simp
    rw [e]
    exact ih k x (i + 1) (by omega) (by omega)
theorem word_both (x : Int) (k : Nat) (hk : 20 ≤ k) : ∃ r, impl_Word32.f k x = some r ∧ spec_Word32.f k x = some r := by
  have h1 := spec_Word32_run 13 k x [] (by omega) (by omega) (by simp)
  have h2 := impl_Word32_run 13 k x 0 (by omega) (by omega)
  refine ⟨strOfNums ((List.range 13).map (digAt x)).reverse, ?_, ?_⟩
  · unfold impl_Word32.f
    rw [if_pos (by omega), Option.bind_some, List.length_replicate]
    simpa using h2
  · unfold spec_Word32.f
    simpa using h1
end Go.Proofs.YtikjbfjnbhaljaaGreatDoor.P
end

section
set_option linter.unusedVariables false
set_option linter.unusedSimpArgs false
namespace Go.Proofs.YtikjbfjnbhaljaaGreatDoor.P
open Go.RowKit Go.Proofs.YtikjbfjnbhaljaaGreatDoorW.PrintWords Go.Proofs.YtikjbfjnbhaljaaGreatDoorW.PrintLast Go.Proofs.YtikjbfjnbhaljaaGreatDoorW.PrintMore Go.Proofs.YtikjbfjnbhaljaaGreatDoorM
theorem pk_length (t : List S57) (hz : ∀ i, (gd t i).f0.size ≤ 1048576 ∧ (gd t i).f2.size ≤ 1048576) : ∀ n i, (pk t n i).length ≤ n * 2097161
  | 0, i => by simp [pk]
  | n + 1, i => by
    have h0 := tx_length (gd t i).f0
    have h2 := tx_length (gd t i).f2
    have hzi := hz i
    have ih := pk_length t hz n (i + 1)
    rw [pk]
    simp only [List.length_append, List.length_cons]
    omega
theorem packed_length (t : List S57) (hz : ∀ i, (gd t i).f0.size ≤ 1048576 ∧ (gd t i).f2.size ≤ 1048576) (hl : t.length ≤ 500) : (packed t).length ≤ 1048581000 := by
  have h1 := pk_length t hz t.length 0
  have h2 := vi_length 4 t.length
  rw [packed]
  simp only [List.length_append, List.length_cons, List.length_nil]
  have : t.length * 2097161 ≤ 500 * 2097161 := Nat.mul_le_mul_right _ hl
  omega
theorem treeSum_both (t : List S57) (hz : ∀ i, (gd t i).f0.size ≤ 1048576 ∧ (gd t i).f2.size ≤ 1048576) (k : Nat) (hk : 1100000000 ≤ k) : ∃ r, impl_TreeSum.f k t = some r ∧ spec_TreeSum.f k t = some r := by
  obtain ⟨b1, hi1, hi2⟩ := impl_TreeOk_eq t (fun i => (hz i).1) k (by omega)
  obtain ⟨b2, hs1, hs2⟩ := spec_TreeOk_eq t (fun i => (hz i).1) k (by omega)
  unfold impl_TreeSum.f spec_TreeSum.f
  rw [hi1, hs1, Option.bind_some, Option.bind_some]
  rcases pack_both t hz k (by omega) with ⟨hok, hp1, hp2⟩ | ⟨hok, hp1, hp2⟩
  · have hpl := packed_length t hz hok.1
    obtain ⟨h, hh1, hh2⟩ := sum_both (packed t) (by omega) k (by omega)
    obtain ⟨r, hr1, hr2⟩ := word_both h k (by omega)
    rw [if_pos (hi2.2 hok), if_pos (hs2.2 hok), hp1, hp2, Option.bind_some, Option.bind_some, hh1, hh2, Option.bind_some, Option.bind_some, hr1, hr2]
    exact ⟨r, rfl, rfl⟩
  · rw [if_neg (fun h => hok (hi2.1 h)), if_neg (fun h => hok (hs2.1 h))]
    exact ⟨_, rfl, rfl⟩
end Go.Proofs.YtikjbfjnbhaljaaGreatDoor.P
end

section
set_option linter.unusedVariables false
set_option linter.unusedSimpArgs false
namespace Go.Proofs.YtikjbfjnbhaljaaGreatDoor.P
open Go.RowKit Go.Proofs.YtikjbfjnbhaljaaGreatDoorW.PrintWords Go.Proofs.YtikjbfjnbhaljaaGreatDoorW.PrintLast Go.Proofs.YtikjbfjnbhaljaaGreatDoorW.PrintMore Go.Proofs.YtikjbfjnbhaljaaGreatDoorM
theorem same_l0 (a b : List ByteArray) (hl : a.length ≤ 1048576) (he : a.length = b.length) : ∀ (n k i : Nat), n + 1 ≤ k → i + n = a.length →
    ∃ r, impl_sameTexts.l0 k a b (a.length : Int) (i : Int) = some r ∧ spec_l12SameTexts.l0 k a b (i : Int) = some r := by
  intro n
  induction n with
  | zero =>
    intro k i hk hi
    obtain ⟨k, rfl⟩ : ∃ k', k = k' + 1 := ⟨k - 1, by omega⟩
    rw [impl_sameTexts.l0, spec_l12SameTexts.l0]
    simp only [if_neg (show ¬ (i : Int) < (a.length : Int) by omega)]
    exact ⟨_, rfl, rfl⟩
  | succ n ih =>
    intro k i hk hi
    obtain ⟨k, rfl⟩ : ∃ k', k = k' + 1 := ⟨k - 1, by omega⟩
    have p1 : (i : Int) < (a.length : Int) := by omega
    have p2 : (i : Int) < (b.length : Int) := by omega
    have p3 : 0 ≤ (i : Int) := by omega
    have hw : wrap64 ((i : Int) + 1) = ((i + 1 : Nat) : Int) := by rw [wrap64_id (by omega) (by omega)]; omega
    rw [impl_sameTexts.l0, spec_l12SameTexts.l0]
    simp only [if_pos p1, if_pos p2, if_pos p3, hw]
    by_cases c : (rdOf ByteArray.empty a (i : Int)).toList = (rdOf ByteArray.empty b (i : Int)).toList
    · simp only [if_pos c]
      exact ih k (i + 1) (by omega) (by omega)
    · simp only [if_neg c]
      exact ⟨_, rfl, rfl⟩
theorem same_both (a b : List ByteArray) (hl : a.length ≤ 1048576) (k : Nat) (hk : a.length + 1 ≤ k) : ∃ r, impl_sameTexts.f k a b = some r ∧ spec_l12SameTexts.f k a b = some r := by
  unfold impl_sameTexts.f spec_l12SameTexts.f
  by_cases he : (a.length : Int) = (b.length : Int)
  · simp only [if_pos he]
    exact same_l0 a b hl (by omega) a.length k 0 hk (by omega)
  · simp only [if_neg he]
    exact ⟨_, rfl, rfl⟩
theorem item_both (p s : ByteArray) (refs : List ByteArray) (f : ByteArray) (t : List S57) (l : List ByteArray) (hr : refs.length ≤ 1048576) (hz : ∀ i, (gd t i).f0.size ≤ 1048576 ∧ (gd t i).f2.size ≤ 1048576)
    (hl : l.length ≤ 2000) (hb : ∀ a ∈ l, a.size ≤ 1048576) (k : Nat) (hk : 1100000000 ≤ k) : ∃ r, impl_itemOk.f k p s refs f t l = some r ∧ spec_l12ItemOk.f k p s refs f t l = some r := by
  obtain ⟨a1, a2, _⟩ := addr_eq p k (by omega)
  obtain ⟨g1, g2, _⟩ := addr_eq f k (by omega)
  obtain ⟨b1, hi1, hi2⟩ := impl_TreeOk_eq t (fun i => (hz i).1) k (by omega)
  obtain ⟨b2, hs1, hs2⟩ := spec_TreeOk_eq t (fun i => (hz i).1) k (by omega)
  obtain ⟨v, hv1, hv2⟩ := treeSum_both t hz k hk
  unfold impl_itemOk.f spec_l12ItemOk.f
  rw [a1, a2, Option.bind_some, Option.bind_some]
  by_cases c1 : addrOk p = true
  · simp only [if_pos c1]
    rw [hi1, hs1, Option.bind_some, Option.bind_some]
    by_cases c2 : treeOk t
    · rw [if_pos (hi2.2 c2), if_pos (hs2.2 c2), hv1, hv2, Option.bind_some, Option.bind_some]
      by_cases c3 : s.toList = v.toList
      · simp only [if_pos c3]
        obtain ⟨q, hq1, hq2, hq3⟩ := refs_both t c2 hz l hl hb k (by omega)
        obtain ⟨e, he1, he2⟩ := same_both refs q hr k (by omega)
        simp only [hq1, hq2, Option.bind_some, he1, he2, g1, g2]
        by_cases c4 : f.toList = ([] : List UInt8)
        · simp only [if_pos c4, Option.bind_some]
          cases e
          · exact ⟨_, rfl, rfl⟩
          · exact ⟨_, rfl, rfl⟩
        · simp only [if_neg c4, Option.bind_some]
          cases e <;> cases addrOk f <;> exact ⟨_, rfl, rfl⟩
      · simp only [if_neg c3]
        exact ⟨_, rfl, rfl⟩
    · rw [if_neg (fun h => c2 (hi2.1 h)), if_neg (fun h => c2 (hs2.1 h))]
      exact ⟨_, rfl, rfl⟩
  · simp only [if_neg c1]
    exact ⟨_, rfl, rfl⟩
end Go.Proofs.YtikjbfjnbhaljaaGreatDoor.P
end

section
set_option linter.unusedVariables false
set_option linter.unusedSimpArgs false
namespace Go.Proofs.YtikjbfjnbhaljaaGreatDoor.P
open Go.RowKit Go.Proofs.YtikjbfjnbhaljaaGreatDoorW.PrintWords Go.Proofs.YtikjbfjnbhaljaaGreatDoorW.PrintLast Go.Proofs.YtikjbfjnbhaljaaGreatDoorW.PrintMore Go.Proofs.YtikjbfjnbhaljaaGreatDoorM
def gi (l : List S55) (i : Nat) : S55 := l.getD i z55
theorem rd_gi (l : List S55) (i : Nat) : rd_T55 l (i : Int) = gi l i := by simp [rd_T55, gi]
theorem gi_get (l : List S55) (i : Nat) (h : i < l.length) : gi l i = l[i] := by simp [gi, List.getD_eq_getElem?_getD, List.getElem?_eq_getElem h]
def pathsOf (l : List S55) : List ByteArray := l.map fun x => x.f0
theorem take_paths (l : List S55) (i : Nat) (h : i < l.length) : (pathsOf l).take (i + 1) = (pathsOf l).take i ++ [(gi l i).f0] := by
  have h' : i < (pathsOf l).length := by simp [pathsOf]; exact h
  rw [List.take_succ_eq_append_getElem h', gi_get l i h]
  simp [pathsOf]
theorem spec_paths_l0 (l : List S55) (hl : l.length ≤ 300) : ∀ (n k i : Nat), n + 1 ≤ k → i + n = l.length → spec_l12Paths.l0 k l ((pathsOf l).take i) (i : Int) = some (pathsOf l) := by
  intro n
  induction n with
  | zero =>
    intro k i hk hi
    obtain ⟨k, rfl⟩ : ∃ k', k = k' + 1 := ⟨k - 1, by omega⟩
    rw [spec_l12Paths.l0, if_neg (by omega), List.take_of_length_le (by simp [pathsOf]; omega)]
  | succ n ih =>
    intro k i hk hi
    obtain ⟨k, rfl⟩ : ∃ k', k = k' + 1 := ⟨k - 1, by omega⟩
    have hw : wrap64 ((i : Int) + 1) = ((i + 1 : Nat) : Int) := by rw [wrap64_id (by omega) (by omega)]; omega
    have hlen : ((pathsOf l).take i).length ≤ i := by rw [List.length_take]; omega
    rw [spec_l12Paths.l0, if_pos (by omega), if_pos (by omega), if_pos (by omega), rd_gi, hw, ← take_paths l i (by omega)]
    exact ih k (i + 1) (by omega) (by omega)
theorem impl_paths_l0 (l : List S55) (hl : l.length ≤ 300) : ∀ (n k i : Nat), n + 1 ≤ k → i + n = l.length → impl_storePaths.l0 k ((pathsOf l).take i) l (l.length : Int) (i : Int) = some (pathsOf l) := by
  intro n
  induction n with
  | zero =>
    intro k i hk hi
    obtain ⟨k, rfl⟩ : ∃ k', k = k' + 1 := ⟨k - 1, by omega⟩
    rw [impl_storePaths.l0, if_neg (by omega), List.take_of_length_le (by simp [pathsOf]; omega)]
  | succ n ih =>
    intro k i hk hi
    obtain ⟨k, rfl⟩ : ∃ k', k = k' + 1 := ⟨k - 1, by omega⟩
    have hw : wrap64 ((i : Int) + 1) = ((i + 1 : Nat) : Int) := by rw [wrap64_id (by omega) (by omega)]; omega
    have hlen : ((pathsOf l).take i).length ≤ i := by rw [List.length_take]; omega
    rw [impl_storePaths.l0, if_pos (by omega), if_pos (by omega), if_pos (by omega), if_pos (by omega), rd_gi, hw, ← take_paths l i (by omega)]
    exact ih k (i + 1) (by omega) (by omega)
noncomputable def itemR (l : List S55) (ps : List ByteArray) (i : Nat) : Bool := (impl_itemOk.f 1100000000 (gi l i).f0 (gi l i).f1 (gi l i).f2 (gi l i).f3 (gi l i).f4 ps).getD false
def smallS (l : List S55) : Prop := ∀ i, (gi l i).f0.size ≤ 1048576 ∧ (gi l i).f2.length ≤ 1048576 ∧ ∀ j, (gd (gi l i).f4 j).f0.size ≤ 1048576 ∧ (gd (gi l i).f4 j).f2.size ≤ 1048576
theorem item_eq (l : List S55) (hs : smallS l) (ps : List ByteArray) (hl : ps.length ≤ 2000) (hb : ∀ a ∈ ps, a.size ≤ 1048576) (i k : Nat) (hk : 1100000000 ≤ k) :
    impl_itemOk.f k (gi l i).f0 (gi l i).f1 (gi l i).f2 (gi l i).f3 (gi l i).f4 ps = some (itemR l ps i) ∧ spec_l12ItemOk.f k (gi l i).f0 (gi l i).f1 (gi l i).f2 (gi l i).f3 (gi l i).f4 ps = some (itemR l ps i) := by
  obtain ⟨r, h1, h2⟩ := item_both (gi l i).f0 (gi l i).f1 (gi l i).f2 (gi l i).f3 (gi l i).f4 ps (hs i).2.1 (hs i).2.2 hl hb k hk
  obtain ⟨r0, g1, _⟩ := item_both (gi l i).f0 (gi l i).f1 (gi l i).f2 (gi l i).f3 (gi l i).f4 ps (hs i).2.1 (hs i).2.2 hl hb 1100000000 (Nat.le_refl _)
  have e := at_rounds (impl_itemOk.mono (gi l i).f0 (gi l i).f1 (gi l i).f2 (gi l i).f3 (gi l i).f4 ps) hk g1
  have er : r0 = r := Option.some.inj (e.symm.trans h1)
  have ea : itemR l ps i = r := by unfold itemR; rw [g1]; exact er
  rw [ea]; exact ⟨h1, h2⟩
def riseP (ps : List ByteArray) : Nat → Nat → Bool
  | 0, _ => true
  | n + 1, i => less (ps.getD (i - 1) ByteArray.empty) (ps.getD i ByteArray.empty) && riseP ps n (i + 1)
noncomputable def itemsP (l : List S55) (ps : List ByteArray) : Nat → Nat → Bool
  | 0, _ => true
  | n + 1, i => itemR l ps i && itemsP l ps n (i + 1)
theorem rdB_getD (l : List ByteArray) (i : Nat) : rdOf ByteArray.empty l (i : Int) = l.getD i ByteArray.empty := by simp [rdOf]
theorem rising_l0 (ps : List ByteArray) (hl : ps.length ≤ 2000) : ∀ (n k i : Nat), n + 1 ≤ k → i + n = ps.length → 1 ≤ i → impl_rising_hs.l0 k ps (i : Int) = some (riseP ps n i) := by
  intro n
  induction n with
  | zero =>
    intro k i hk hi h1
    obtain ⟨k, rfl⟩ : ∃ k', k = k' + 1 := ⟨k - 1, by omega⟩
    rw [impl_rising_hs.l0, if_neg (by omega)]
    rfl
  | succ n ih =>
    intro k i hk hi h1
    obtain ⟨k, rfl⟩ : ∃ k', k = k' + 1 := ⟨k - 1, by omega⟩
    have Hw : Aside0 (wrap64 ((i : Int) + 1) = ((i + 1 : Nat) : Int)) := Aside0.mk (by rw [wrap64_id (by omega) (by omega)]; omega)
    have Hv : Aside0 (wrap64 ((i : Int) - 1) = ((i - 1 : Nat) : Int)) := Aside0.mk (by rw [wrap64_id (by omega) (by omega)]; omega)
    rw [impl_rising_hs.l0, Hv.out, Hw.out, if_pos (by omega), if_pos (by omega), if_pos (by omega), if_pos (by omega), rdB_getD, rdB_getD, bl_less, riseP]
    by_cases c : less (ps.getD (i - 1) ByteArray.empty) (ps.getD i ByteArray.empty) = true
    · rw [if_pos c, c, Bool.true_and]
      exact ih k (i + 1) (by omega) (by omega) (by omega)
    · rw [if_neg c, Bool.eq_false_iff.2 c, Bool.false_and]
theorem impl_items_l0 (l : List S55) (hs : smallS l) (ps : List ByteArray) (hl : ps.length ≤ 2000) (hll : l.length ≤ 300) (hb : ∀ a ∈ ps, a.size ≤ 1048576) : ∀ (n k i : Nat), n + 1100000001 ≤ k → i + n = l.length → impl_StoreOk.l0 k ps l (l.length : Int) (i : Int) = some (itemsP l ps n i) := by
  intro n
  induction n with
  | zero =>
    intro k i hk hi
    obtain ⟨k, rfl⟩ : ∃ k', k = k' + 1 := ⟨k - 1, by omega⟩
    rw [impl_StoreOk.l0, if_neg (by omega)]
    rfl
  | succ n ih =>
    intro k i hk hi
    obtain ⟨k, rfl⟩ : ∃ k', k = k' + 1 := ⟨k - 1, by omega⟩
    have Hw : Aside0 (wrap64 ((i : Int) + 1) = ((i + 1 : Nat) : Int)) := Aside0.mk (by rw [wrap64_id (by omega) (by omega)]; omega)
    rw [impl_StoreOk.l0, if_pos (by omega), if_pos (by omega), if_pos (by omega), rd_gi, (item_eq l hs ps hl hb i k (by omega)).1, Option.bind_some, Hw.out, itemsP]
    by_cases c : itemR l ps i = true
    · rw [if_pos c, c, Bool.true_and]
      exact ih k (i + 1) (by omega) (by omega)
    · rw [if_neg c, Bool.eq_false_iff.2 c, Bool.false_and]
theorem spec_items_l0 (l : List S55) (hs : smallS l) (ps : List ByteArray) (hl : ps.length = l.length) (hll : l.length ≤ 300) (hb : ∀ a ∈ ps, a.size ≤ 1048576) : ∀ (n k i : Nat), n + 1100000001 ≤ k → i + n = l.length → 1 ≤ i →
    spec_StoreOk.l0 k l ps (i : Int) = some (riseP ps n i && itemsP l ps n i) := by
  intro n
  induction n with
  | zero =>
    intro k i hk hi h1
    obtain ⟨k, rfl⟩ : ∃ k', k = k' + 1 := ⟨k - 1, by omega⟩
    rw [spec_StoreOk.l0, if_neg (by omega)]
    rfl
  | succ n ih =>
    intro k i hk hi h1
    obtain ⟨k, rfl⟩ : ∃ k', k = k' + 1 := ⟨k - 1, by omega⟩
    have Hw : Aside0 (wrap64 ((i : Int) + 1) = ((i + 1 : Nat) : Int)) := Aside0.mk (by rw [wrap64_id (by omega) (by omega)]; omega)
    have Hv : Aside0 (wrap64 ((i : Int) - 1) = ((i - 1 : Nat) : Int)) := Aside0.mk (by rw [wrap64_id (by omega) (by omega)]; omega)
    have p1 : (i : Int) < (l.length : Int) := by omega
    have p2 : (i : Int) > 0 := by omega
    have p3 : 0 ≤ ((i - 1 : Nat) : Int) := by omega
    have p4 : ((i - 1 : Nat) : Int) < (ps.length : Int) := by omega
    have p5 : 0 ≤ (i : Int) := by omega
    have p6 : (i : Int) < (ps.length : Int) := by omega
    rw [spec_StoreOk.l0, Hv.out, Hw.out, if_pos p1, if_pos p2, if_pos p3, if_pos p4, if_pos p5, if_pos p6, rdB_getD, rdB_getD, bl_less, rd_gi, (item_eq l hs ps (by omega) hb i k (by omega)).2, Option.bind_some, riseP, itemsP]
    by_cases c : less (ps.getD (i - 1) ByteArray.empty) (ps.getD i ByteArray.empty) = true
    · rw [if_pos c, c, Bool.true_and]
      by_cases c2 : itemR l ps i = true
      · rw [if_pos c2, c2, Bool.true_and]
        exact ih k (i + 1) (by omega) (by omega) (by omega)
      · rw [if_neg c2, Bool.eq_false_iff.2 c2, Bool.false_and, Bool.and_false]
    · rw [if_neg c, Bool.eq_false_iff.2 c, Bool.false_and, Bool.false_and]
theorem StoreOk_both (l : List S55) (hs : smallS l) (k : Nat) (hk : 1100001000 ≤ k) : ∃ r, impl_StoreOk.f k l = some r ∧ spec_StoreOk.f k l = some r := by
  unfold impl_StoreOk.f spec_StoreOk.f
  by_cases c : (l.length : Int) > 300
  · simp only [if_pos c]
    exact ⟨_, rfl, rfl⟩
  · simp only [if_neg c]
    have hll : l.length ≤ 300 := by omega
    have hpl : (pathsOf l).length = l.length := by simp [pathsOf]
    have hb : ∀ a ∈ pathsOf l, a.size ≤ 1048576 := by
      intro a ha
      obtain ⟨x, hx, rfl⟩ := List.mem_map.1 ha
      obtain ⟨i, hi, rfl⟩ := List.getElem_of_mem hx
      rw [← gi_get l i hi]
      exact (hs i).1
    unfold impl_storePaths.f spec_l12Paths.f impl_rising_hs.f
    have h1 := impl_paths_l0 l hll l.length k 0 (by omega) (by omega)
    have h2 := spec_paths_l0 l hll l.length k 0 (by omega) (by omega)
    rw [List.take_zero] at h1 h2
    have h1' : impl_storePaths.l0 k [] l (l.length : Int) 0 = some (pathsOf l) := h1
    have h2' : spec_l12Paths.l0 k l [] 0 = some (pathsOf l) := h2
    rw [h1', h2', Option.bind_some, Option.bind_some]
    have h3 := impl_items_l0 l hs (pathsOf l) (by omega) hll hb l.length k 0 (by omega) (by omega)
    have h3' : impl_StoreOk.l0 k (pathsOf l) l (l.length : Int) 0 = some (itemsP l (pathsOf l) l.length 0) := h3
    rcases Nat.eq_zero_or_pos l.length with h0 | h0
    · have h4 : impl_rising_hs.l0 k (pathsOf l) 1 = some true := by
        obtain ⟨k, rfl⟩ : ∃ k', k = k' + 1 := ⟨k - 1, by omega⟩
        rw [impl_rising_hs.l0, if_neg (by omega)]
      have h5 : spec_StoreOk.l0 k l (pathsOf l) 0 = some true := by
        obtain ⟨k, rfl⟩ : ∃ k', k = k' + 1 := ⟨k - 1, by omega⟩
        rw [spec_StoreOk.l0, if_neg (by omega)]
      rw [h4, h5, Option.bind_some, if_pos rfl, h3', h0]
      exact ⟨_, rfl, rfl⟩
    · obtain ⟨n, hn⟩ : ∃ n, l.length = n + 1 := ⟨l.length - 1, by omega⟩
      have h4 : impl_rising_hs.l0 k (pathsOf l) 1 = some (riseP (pathsOf l) n 1) := rising_l0 (pathsOf l) (by omega) n k 1 (by omega) (by omega) (by omega)
      have h5 : spec_StoreOk.l0 k l (pathsOf l) 0 = some (itemR l (pathsOf l) 0 && (riseP (pathsOf l) n 1 && itemsP l (pathsOf l) n 1)) := by
        obtain ⟨k, rfl⟩ : ∃ k', k = k' + 1 := ⟨k - 1, by omega⟩
        have h6 : spec_StoreOk.l0 k l (pathsOf l) 1 = _ := spec_items_l0 l hs (pathsOf l) hpl hll hb n k 1 (by omega) (by omega) (by omega)
        have e0 : rd_T55 l 0 = gi l 0 := rd_gi l 0
        have e1 : wrap64 (0 + 1) = 1 := by rw [wrap64_id (by omega) (by omega)]; rfl
        rw [spec_StoreOk.l0, if_pos (by omega), if_neg (by omega), if_pos (by omega), e0, e1, (item_eq l hs (pathsOf l) (by omega) hb 0 k (by omega)).2, Option.bind_some]
        by_cases c2 : itemR l (pathsOf l) 0 = true
        · rw [if_pos c2, c2, Bool.true_and]; exact h6
        · rw [if_neg c2, Bool.eq_false_iff.2 c2, Bool.false_and]
      rw [h4, h5, Option.bind_some, h3', hn, itemsP]
      cases riseP (pathsOf l) n 1
      · exact ⟨false, rfl, by simp⟩
      · exact ⟨_, rfl, by simp⟩
end Go.Proofs.YtikjbfjnbhaljaaGreatDoor.P
end

section
set_option linter.unusedVariables false
set_option linter.unusedSimpArgs false
namespace Go.Proofs.YtikjbfjnbhaljaaGreatDoor.P
open Go.RowKit Go.Proofs.YtikjbfjnbhaljaaGreatDoorW.PrintWords Go.Proofs.YtikjbfjnbhaljaaGreatDoorW.PrintLast Go.Proofs.YtikjbfjnbhaljaaGreatDoorW.PrintMore Go.Proofs.YtikjbfjnbhaljaaGreatDoorM
theorem szEntryS_l0_le (t : List S70) (hf : fits t) : ∀ (n k i : Nat) (a : Int), n + 1 ≤ k → i + n = t.length → 0 ≤ a → a ≤ 1048576 →
    ∃ r, laws_szEntryS.l0 k t a (i : Int) = some r ∧ r ≤ a ∧ (0 ≤ r → ∀ j, i ≤ j → j < t.length → (gl t j).f0.size ≤ 1048576 ∧ (gl t j).f2.size ≤ 1048576) := by
  intro n
  induction n with
  | zero =>
    intro k i a hk hi _ _
    obtain ⟨k, rfl⟩ : ∃ k', k = k' + 1 := ⟨k - 1, by omega⟩
    rw [laws_szEntryS.l0, if_neg (by omega)]
    exact ⟨_, rfl, Int.le_refl _, fun _ j h1 h2 => by omega⟩
  | succ n ih =>
    intro k i a hk hi h0 h1
    have hl := hf.1
    obtain ⟨k, rfl⟩ : ∃ k', k = k' + 1 := ⟨k - 1, by omega⟩
    have hw : wrap64 ((i : Int) + 1) = ((i + 1 : Nat) : Int) := by rw [wrap64_id (by omega) (by omega)]; omega
    obtain ⟨r, hr, hra, hr2⟩ := laws_szEntry_eq (gl t i).f0 (gl t i).f1 (gl t i).f2 (gl t i).f3 a (hf.2 i).1 (hf.2 i).2 h0 h1
    rw [laws_szEntryS.l0, if_pos (by omega), if_pos (by omega), rd_gl, hr, Option.bind_some, hw]
    by_cases hneg : r < 0
    · rw [if_pos hneg]; exact ⟨_, rfl, by omega, by omega⟩
    · rw [if_neg hneg]
      obtain ⟨q, hq, hqa, hq2⟩ := ih k (i + 1) r (by omega) (by omega) (by omega) (by omega)
      refine ⟨q, hq, by omega, fun h j h3 h4 => ?_⟩
      rcases Nat.lt_or_ge i j with h5 | h5
      · exact hq2 h j h5 h4
      · obtain rfl : j = i := by omega
        exact hr2 (by omega)
theorem szEntryS_le (t : List S70) (hf : fits t) (a : Int) (h0 : 0 ≤ a) (h1 : a ≤ 1048576) (k : Nat) (hk : t.length + 1 ≤ k) :
    ∃ r, laws_szEntryS.f k t a = some r ∧ r ≤ a ∧ (0 ≤ r → t.length ≤ 1048576 ∧ ∀ i, (gl t i).f0.size ≤ 1048576 ∧ (gl t i).f2.size ≤ 1048576) := by
  have hl := hf.1
  unfold laws_szEntryS.f
  rw [wrap64_id (by omega) (by omega)]
  by_cases h : a - (t.length : Int) < 0
  · rw [if_pos h]; exact ⟨_, rfl, by omega, by omega⟩
  · rw [if_neg h]
    obtain ⟨r, hr, hra, h2⟩ := szEntryS_l0_le t hf t.length k 0 (a - (t.length : Int)) hk (by omega) (by omega) (by omega)
    refine ⟨r, hr, by omega, fun h3 => ⟨by omega, fun i => ?_⟩⟩
    rcases Nat.lt_or_ge i t.length with h4 | h4
    · exact h2 h3 i (Nat.zero_le _) h4
    · rw [gl_beyond t i h4]; decide
theorem szStringS_l0_le (l : List ByteArray) (hl : l.length ≤ 9223372036854775807) (hz : ∀ i, (l.getD i ByteArray.empty).size ≤ 9223372036854775807) : ∀ (n k i : Nat) (a : Int), n + 1 ≤ k → i + n = l.length → 0 ≤ a → a ≤ 1048576 →
    ∃ r, laws_szStringS.l0 k l a (i : Int) = some r ∧ r ≤ a := by
  intro n
  induction n with
  | zero =>
    intro k i a hk hi _ _
    obtain ⟨k, rfl⟩ : ∃ k', k = k' + 1 := ⟨k - 1, by omega⟩
    rw [laws_szStringS.l0, if_neg (by omega)]
    exact ⟨_, rfl, Int.le_refl _⟩
  | succ n ih =>
    intro k i a hk hi h0 h1
    obtain ⟨k, rfl⟩ : ∃ k', k = k' + 1 := ⟨k - 1, by omega⟩
    have hzi := hz i
    rw [laws_szStringS.l0, if_pos (by omega), if_pos (by omega), rdB_getD, wrap64_id (n := a - ((l.getD i ByteArray.empty).size : Int)) (by omega) (by omega)]
    by_cases hneg : a - ((l.getD i ByteArray.empty).size : Int) < 0
    · rw [if_pos hneg]; exact ⟨_, rfl, by omega⟩
    · rw [if_neg hneg, show wrap64 ((i : Int) + 1) = ((i + 1 : Nat) : Int) by rw [wrap64_id (by omega) (by omega)]; omega]
      obtain ⟨q, hq, hqa⟩ := ih k (i + 1) (a - ((l.getD i ByteArray.empty).size : Int)) (by omega) (by omega) (by omega) (by omega)
      exact ⟨q, hq, by omega⟩
theorem szStringS_le (l : List ByteArray) (hl : l.length ≤ 9223372036854775807) (hz : ∀ i, (l.getD i ByteArray.empty).size ≤ 9223372036854775807) (a : Int) (h0 : 0 ≤ a) (h1 : a ≤ 1048576) (k : Nat) (hk : l.length + 1 ≤ k) :
    ∃ r, laws_szStringS.f k l a = some r ∧ r ≤ a ∧ (0 ≤ r → l.length ≤ 1048576) := by
  unfold laws_szStringS.f
  rw [wrap64_id (by omega) (by omega)]
  by_cases h : a - (l.length : Int) < 0
  · rw [if_pos h]; exact ⟨_, rfl, by omega, by omega⟩
  · rw [if_neg h]
    obtain ⟨r, hr, hra⟩ := szStringS_l0_le l hl hz l.length k 0 (a - (l.length : Int)) hk (by omega) (by omega) (by omega)
    exact ⟨r, hr, by omega, fun h3 => by omega⟩
def gj (l : List S52) (i : Nat) : S52 := l.getD i z52
theorem rd_gj (l : List S52) (i : Nat) : rd_T52 l (i : Int) = gj l i := by simp [rd_T52, gj]
theorem gj_get (l : List S52) (i : Nat) (h : i < l.length) : gj l i = l[i] := by simp [gj, List.getD_eq_getElem?_getD, List.getElem?_eq_getElem h]
theorem gj_beyond (l : List S52) (i : Nat) (h : l.length ≤ i) : gj l i = z52 := by simp [gj, List.getD_eq_getElem?_getD, List.getElem?_eq_none h]
def fitsI (x : S52) : Prop := x.f0.size ≤ 9223372036854775807 ∧ x.f1.size ≤ 9223372036854775807 ∧ (x.f2.length ≤ 9223372036854775807 ∧ ∀ i, (x.f2.getD i ByteArray.empty).size ≤ 9223372036854775807) ∧ x.f3.size ≤ 9223372036854775807 ∧ fits x.f4
def fitsS (l : List S52) : Prop := l.length ≤ 9223372036854775807 ∧ ∀ i, fitsI (gj l i)
def smallJ (x : S52) : Prop := x.f0.size ≤ 1048576 ∧ x.f2.length ≤ 1048576 ∧ x.f4.length ≤ 1048576 ∧ ∀ j, (gl x.f4 j).f0.size ≤ 1048576 ∧ (gl x.f4 j).f2.size ≤ 1048576
theorem szItem_le (x : S52) (hf : fitsI x) (a : Int) (h0 : 0 ≤ a) (h1 : a ≤ 1048576) (k : Nat) (hk : 9223372036854775808 ≤ k) : ∃ r, laws_szItem.f k x.f0 x.f1 x.f2 x.f3 x.f4 a = some r ∧ r ≤ a ∧ (0 ≤ r → smallJ x) := by
  obtain ⟨p0, p1, ⟨p2, p2'⟩, p3, p4⟩ := hf
  have p4l := p4.1
  unfold laws_szItem.f
  rw [wrap64_id (n := a - (x.f0.size : Int)) (by omega) (by omega)]
  by_cases c0 : a - (x.f0.size : Int) < 0
  · rw [if_pos c0]; exact ⟨_, rfl, by omega, by omega⟩
  · rw [if_neg c0, wrap64_id (n := a - (x.f0.size : Int) - (x.f1.size : Int)) (by omega) (by omega)]
    by_cases c1 : a - (x.f0.size : Int) - (x.f1.size : Int) < 0
    · rw [if_pos c1]; exact ⟨_, rfl, by omega, by omega⟩
    · obtain ⟨r, hr, hra, hr2⟩ := szStringS_le x.f2 p2 p2' (a - (x.f0.size : Int) - (x.f1.size : Int)) (by omega) (by omega) k (by omega)
      rw [if_neg c1, hr, Option.bind_some]
      by_cases c2 : r < 0
      · rw [if_pos c2]; exact ⟨_, rfl, by omega, by omega⟩
      · rw [if_neg c2, wrap64_id (n := r - (x.f3.size : Int)) (by omega) (by omega)]
        by_cases c3 : r - (x.f3.size : Int) < 0
        · rw [if_pos c3]; exact ⟨_, rfl, by omega, by omega⟩
        · obtain ⟨q, hq, hqa, hq2⟩ := szEntryS_le x.f4 p4 (r - (x.f3.size : Int)) (by omega) (by omega) k (by omega)
          rw [if_neg c3, hq, Option.bind_some]
          by_cases c4 : q < 0
          · rw [if_pos c4]; exact ⟨_, rfl, by omega, by omega⟩
          · rw [if_neg c4]
            have hr3 := hr2 (by omega)
            obtain ⟨e1, e2⟩ := hq2 (by omega)
            exact ⟨_, rfl, by omega, fun _ => ⟨by omega, hr3, e1, e2⟩⟩
theorem szItemS_l0_le (l : List S52) (hf : fitsS l) : ∀ (n k i : Nat) (a : Int), n + 9223372036854775809 ≤ k → i + n = l.length → 0 ≤ a → a ≤ 1048576 →
    ∃ r, laws_szItemS.l0 k l a (i : Int) = some r ∧ (0 ≤ r → ∀ j, i ≤ j → j < l.length → smallJ (gj l j)) := by
  intro n
  induction n with
  | zero =>
    intro k i a hk hi _ _
    obtain ⟨k, rfl⟩ : ∃ k', k = k' + 1 := ⟨k - 1, by omega⟩
    rw [laws_szItemS.l0, if_neg (by omega)]
    exact ⟨_, rfl, fun _ j h1 h2 => by omega⟩
  | succ n ih =>
    intro k i a hk hi h0 h1
    have hl := hf.1
    obtain ⟨k, rfl⟩ : ∃ k', k = k' + 1 := ⟨k - 1, by omega⟩
    have hw : wrap64 ((i : Int) + 1) = ((i + 1 : Nat) : Int) := by rw [wrap64_id (by omega) (by omega)]; omega
    obtain ⟨r, hr, hra, hr2⟩ := szItem_le (gj l i) (hf.2 i) a h0 h1 k (by omega)
    rw [laws_szItemS.l0, if_pos (by omega), if_pos (by omega), rd_gj, hr, Option.bind_some, hw]
    by_cases hneg : r < 0
    · rw [if_pos hneg]; exact ⟨_, rfl, by omega⟩
    · rw [if_neg hneg]
      obtain ⟨q, hq, hq2⟩ := ih k (i + 1) r (by omega) (by omega) (by omega) (by omega)
      refine ⟨q, hq, fun h j h3 h4 => ?_⟩
      rcases Nat.lt_or_ge i j with h5 | h5
      · exact hq2 h j h5 h4
      · obtain rfl : j = i := by omega
        exact hr2 (by omega)
theorem szItemS_eq (l : List S52) (hf : fitsS l) (k : Nat) (hk : l.length + 9223372036854775809 ≤ k) :
    ∃ r, laws_szItemS.f k l 1048576 = some r ∧ (0 ≤ r → l.length ≤ 1048576 ∧ ∀ i, smallJ (gj l i)) := by
  have hl := hf.1
  unfold laws_szItemS.f
  rw [wrap64_id (by omega) (by omega)]
  by_cases h : 1048576 - (l.length : Int) < 0
  · rw [if_pos h]; exact ⟨_, rfl, by omega⟩
  · rw [if_neg h]
    obtain ⟨r, hr, h2⟩ := szItemS_l0_le l hf l.length k 0 (1048576 - (l.length : Int)) hk (by omega) (by omega) (by omega)
    refine ⟨r, hr, fun h3 => ⟨by omega, fun i => ?_⟩⟩
    rcases Nat.lt_or_ge i l.length with h4 | h4
    · exact h2 h3 i (Nat.zero_le _) h4
    · rw [gj_beyond l i h4]
      exact ⟨by decide, by decide, by decide, fun j => by have e : gl (z52).f4 j = z70 := gl_beyond _ j (Nat.zero_le _); rw [e]; decide⟩
end Go.Proofs.YtikjbfjnbhaljaaGreatDoor.P
end

section
set_option linter.unusedVariables false
set_option linter.unusedSimpArgs false
namespace Go.Proofs.YtikjbfjnbhaljaaGreatDoor.P
open Go.RowKit Go.Proofs.YtikjbfjnbhaljaaGreatDoorW.PrintWords Go.Proofs.YtikjbfjnbhaljaaGreatDoorW.PrintLast Go.Proofs.YtikjbfjnbhaljaaGreatDoorW.PrintMore Go.Proofs.YtikjbfjnbhaljaaGreatDoorM
theorem toStringS_l0 (l : List ByteArray) (hl : l.length ≤ 1048576) : ∀ (n k i : Nat), n + 1 ≤ k → i + n = l.length → laws_toStringS.l0 k l (l.take i ++ List.replicate n (⟨#[]⟩ : ByteArray)) (i : Int) = some l := by
  intro n
  induction n with
  | zero =>
    intro k i hk hi
    obtain ⟨k, rfl⟩ : ∃ k', k = k' + 1 := ⟨k - 1, by omega⟩
    rw [laws_toStringS.l0, if_neg (by omega), List.take_of_length_le (by omega)]
    simp
  | succ n ih =>
    intro k i hk hi
    obtain ⟨k, rfl⟩ : ∃ k', k = k' + 1 := ⟨k - 1, by omega⟩
    have hw : wrap64 ((i : Int) + 1) = ((i + 1 : Nat) : Int) := by rw [wrap64_id (by omega) (by omega)]; omega
    have hlt : i < l.length := by omega
    have htl : (l.take i).length = i := by simp; omega
    have e : (l.take i ++ List.replicate (n + 1) (⟨#[]⟩ : ByteArray)).set i l[i] = l.take (i + 1) ++ List.replicate n (⟨#[]⟩ : ByteArray) := by
      rw [List.set_append_right _ _ (by omega), htl, Nat.sub_self, List.replicate_succ, List.set_cons_zero, List.take_succ_eq_append_getElem hlt, List.append_assoc, List.singleton_append]
    rw [laws_toStringS.l0, if_pos (by omega), if_pos (by omega), if_pos (by simp; omega), rdB_at l i hlt, hw, Int.toNat_natCast, e]
    exact ih k (i + 1) (by omega) (by omega)
theorem toStringS_eq (l : List ByteArray) (hl : l.length ≤ 1048576) (k : Nat) (hk : l.length + 1 ≤ k) : laws_toStringS.f k l = some l := by
  unfold laws_toStringS.f
  rw [if_pos (by omega), if_pos (by omega), Int.toNat_natCast]
  have := toStringS_l0 l hl l.length k 0 hk (by omega)
  simpa using this
def cvI (x : S52) : S55 := ⟨x.f0, x.f1, x.f2, x.f3, x.f4.map cv⟩
theorem toItemS_l0 (l : List S52) (hl : l.length ≤ 1048576) (hs : ∀ i, smallJ (gj l i)) : ∀ (n k i : Nat), n + 1048600 ≤ k → i + n = l.length →
    laws_toItemS.l0 k l ((l.take i).map cvI ++ List.replicate n z55) (i : Int) = some (l.map cvI) := by
  intro n
  induction n with
  | zero =>
    intro k i hk hi
    obtain ⟨k, rfl⟩ : ∃ k', k = k' + 1 := ⟨k - 1, by omega⟩
    rw [laws_toItemS.l0, if_neg (by omega), List.take_of_length_le (by omega)]
    simp
  | succ n ih =>
    intro k i hk hi
    obtain ⟨k, rfl⟩ : ∃ k', k = k' + 1 := ⟨k - 1, by omega⟩
    have hw : wrap64 ((i : Int) + 1) = ((i + 1 : Nat) : Int) := by rw [wrap64_id (by omega) (by omega)]; omega
    have hlt : i < l.length := by omega
    have htl : ((l.take i).map cvI).length = i := by simp; omega
    obtain ⟨s0, s2, s4, _⟩ := hs i
    have e : ((l.take i).map cvI ++ List.replicate (n + 1) z55).set i (cvI (gj l i)) = (l.take (i + 1)).map cvI ++ List.replicate n z55 := by
      rw [List.set_append_right _ _ (by omega), htl, Nat.sub_self, List.replicate_succ, List.set_cons_zero, List.take_succ_eq_append_getElem hlt, List.map_append, gj_get l i hlt, List.append_assoc]
      rfl
    rw [laws_toItemS.l0, if_pos (by omega), if_pos (by omega), rd_gj]
    unfold laws_toItem.f
    rw [toStringS_eq _ s2 k (by omega), Option.bind_some, laws_toEntryS_eq _ s4 k (by omega), Option.bind_some, Option.bind_some, if_pos (by simp; omega), hw, Int.toNat_natCast]
    show laws_toItemS.l0 k l (((l.take i).map cvI ++ List.replicate (n + 1) z55).set i (cvI (gj l i))) _ = _
    rw [e]
    exact ih k (i + 1) (by omega) (by omega)
theorem toItemS_eq (l : List S52) (hl : l.length ≤ 1048576) (hs : ∀ i, smallJ (gj l i)) (k : Nat) (hk : 3000000 ≤ k) : laws_toItemS.f k l = some (l.map cvI) := by
  unfold laws_toItemS.f
  rw [if_pos (by omega), if_pos (by omega), Int.toNat_natCast]
  have := toItemS_l0 l hl hs l.length k 0 (by omega) (by omega)
  simpa using this
theorem eqStringS_l0 (l : List ByteArray) (hl : l.length ≤ 1048576) : ∀ (n k i : Nat), n + 1 ≤ k → i + n = l.length → laws_eqStringS.l0 k l l (i : Int) = some true := by
  intro n
  induction n with
  | zero =>
    intro k i hk hi
    obtain ⟨k, rfl⟩ : ∃ k', k = k' + 1 := ⟨k - 1, by omega⟩
    rw [laws_eqStringS.l0, if_neg (by omega)]
  | succ n ih =>
    intro k i hk hi
    obtain ⟨k, rfl⟩ : ∃ k', k = k' + 1 := ⟨k - 1, by omega⟩
    have hw : wrap64 ((i : Int) + 1) = ((i + 1 : Nat) : Int) := by rw [wrap64_id (by omega) (by omega)]; omega
    rw [laws_eqStringS.l0, if_pos (by omega), if_pos (by omega), if_pos (by omega), if_pos rfl, hw]
    exact ih k (i + 1) (by omega) (by omega)
theorem eqItemS_l0 (l : List S55) (hl : l.length ≤ 1048576) (hs : ∀ i, (gi l i).f2.length ≤ 1048576 ∧ (gi l i).f4.length ≤ 1048576) : ∀ (n k i : Nat), n + 1048600 ≤ k → i + n = l.length → laws_eqItemS.l0 k l l (i : Int) = some true := by
  intro n
  induction n with
  | zero =>
    intro k i hk hi
    obtain ⟨k, rfl⟩ : ∃ k', k = k' + 1 := ⟨k - 1, by omega⟩
    rw [laws_eqItemS.l0, if_neg (by omega)]
  | succ n ih =>
    intro k i hk hi
    obtain ⟨k, rfl⟩ : ∃ k', k = k' + 1 := ⟨k - 1, by omega⟩
    have hw : wrap64 ((i : Int) + 1) = ((i + 1 : Nat) : Int) := by rw [wrap64_id (by omega) (by omega)]; omega
    obtain ⟨s2, s4⟩ := hs i
    have e2 : laws_eqStringS.f k (gi l i).f2 (gi l i).f2 = some true := by
      unfold laws_eqStringS.f
      rw [if_pos rfl]
      exact eqStringS_l0 _ s2 (gi l i).f2.length k 0 (by omega) (by omega)
    rw [laws_eqItemS.l0, if_pos (by omega), if_pos (by omega), if_pos (by omega), hw, rd_gi]
    unfold laws_eqItem.f
    rw [if_pos rfl, if_pos rfl, e2, Option.bind_some, if_pos rfl, if_pos rfl, laws_eqEntryS_refl _ s4 k (by omega), Option.bind_some, if_pos rfl, Option.bind_some, if_pos rfl]
    exact ih k (i + 1) (by omega) (by omega)
theorem gi_cv (l : List S52) (i : Nat) : gi (l.map cvI) i = cvI (gj l i) := by
  unfold gi gj
  rw [List.getD_eq_getElem?_getD, List.getD_eq_getElem?_getD, List.getElem?_map]
  cases l[i]? <;> rfl
theorem passed (l : List S52) (hl : l.length ≤ 1048576) (hs : ∀ i, smallJ (gj l i)) (K : Nat) (hK : l.length + 9223372036854775809 ≤ K) :
    smallS (l.map cvI) ∧ laws_eqItemS.f K (l.map cvI) (l.map cvI) = some true ∧ (l.map cvI).length ≤ 1048576 ∧ ∀ i, (gi (l.map cvI) i).f4.length ≤ 1048576 := by
  refine ⟨fun i => ?_, ?_, by rw [List.length_map]; exact hl, fun i => ?_⟩
  · rw [gi_cv]
    exact ⟨(hs i).1, (hs i).2.1, fun j => by have e : gd (cvI (gj l i)).f4 j = cv (gl (gj l i).f4 j) := gd_cv _ j; rw [e]; exact (hs i).2.2.2 j⟩
  · unfold laws_eqItemS.f
    rw [if_pos rfl]
    refine eqItemS_l0 (l.map cvI) (by simpa using hl) (fun i => ?_) (l.map cvI).length K 0 (by rw [List.length_map]; omega) (by omega)
    rw [gi_cv]
    exact ⟨(hs i).2.1, by show ((gj l i).f4.map cv).length ≤ _; rw [List.length_map]; exact (hs i).2.2.1⟩
  · rw [gi_cv]
    show ((gj l i).f4.map cv).length ≤ _
    rw [List.length_map]
    exact (hs i).2.2.1
theorem fitsS_of (l : List S52) (hl : l.length ≤ maxLen) (hg : ∀ x ∈ l, x.f0.size ≤ maxLen ∧ x.f1.size ≤ maxLen ∧ (x.f2.length ≤ maxLen ∧ ∀ a ∈ x.f2, a.size ≤ maxLen) ∧ x.f3.size ≤ maxLen ∧ (x.f4.length ≤ maxLen ∧ ∀ a ∈ x.f4, a.f0.size ≤ maxLen ∧ (Lit.int .i64 a.f1).wf = true ∧ a.f2.size ≤ maxLen ∧ True)) : fitsS l := by
  refine ⟨by unfold maxLen at hl; omega, fun i => ?_⟩
  rcases Nat.lt_or_ge i l.length with h | h
  · rw [gj_get l i h]
    obtain ⟨h0, h1, ⟨h2, h2'⟩, h3, h4, h4'⟩ := hg _ (List.getElem_mem h)
    unfold maxLen at h0 h1 h2 h3
    refine ⟨by omega, by omega, ⟨by omega, fun j => ?_⟩, by omega, fits_of _ h4 h4'⟩
    rcases Nat.lt_or_ge j l[i].f2.length with hj | hj
    · have := h2' _ (List.getElem_mem hj)
      unfold maxLen at this
      rw [List.getD_eq_getElem?_getD, List.getElem?_eq_getElem hj]
      show (l[i].f2[j]).size ≤ _
      omega
    · rw [List.getD_eq_getElem?_getD, List.getElem?_eq_none hj]; decide
  · rw [gj_beyond l i h]
    exact ⟨by decide, by decide, ⟨by decide, fun j => by rw [List.getD_eq_getElem?_getD, List.getElem?_eq_none (Nat.zero_le j)]; decide⟩, by decide, fits_of _ (by decide) (fun a ha => by cases ha)⟩
end Go.Proofs.YtikjbfjnbhaljaaGreatDoor.P
end

section
set_option linter.unusedVariables false
set_option linter.unusedSimpArgs false
namespace Go.Proofs.YtikjbfjnbhaljaaGreatDoor.P
open Go.RowKit Go.Proofs.YtikjbfjnbhaljaaGreatDoorW.PrintWords Go.Proofs.YtikjbfjnbhaljaaGreatDoorW.PrintLast Go.Proofs.YtikjbfjnbhaljaaGreatDoorW.PrintMore Go.Proofs.YtikjbfjnbhaljaaGreatDoorM
theorem rdI_app (pre t : List S55) (x : S55) : rd_T55 (pre ++ x :: t) (pre.length : Int) = x := by simp [rd_T55]
theorem rdB_app (pre t : List ByteArray) (x : ByteArray) : rdOf ByteArray.empty (pre ++ x :: t) (pre.length : Int) = x := by simp [rdOf]
def fP : List S55 → ByteArray → Nat → Int
  | [], _, _ => -1
  | x :: l, p, n => if x.f0 = p then (n : Int) else fP l p (n + 1)
theorem fP_spec (p : ByteArray) : ∀ (l : List S55) (n : Nat), (fP l p n = -1 ∧ ∀ x ∈ l, x.f0 ≠ p) ∨ ∃ i, i < l.length ∧ fP l p n = ((n + i : Nat) : Int) ∧ (gi l i).f0 = p
  | [], n => .inl ⟨rfl, fun x hx => by cases hx⟩
  | x :: l, n => by
    unfold fP
    by_cases h : x.f0 = p
    · rw [if_pos h]
      exact .inr ⟨0, by simp, by simp, by simp [gi, h]⟩
    · rw [if_neg h]
      rcases fP_spec p l (n + 1) with ⟨h1, h2⟩ | ⟨i, h1, h2, h3⟩
      · exact .inl ⟨h1, fun y hy => (List.mem_cons.1 hy).elim (fun e => e ▸ h) (h2 y)⟩
      · refine .inr ⟨i + 1, by simp; omega, by rw [h2]; congr 1; omega, ?_⟩
        have : gi (x :: l) (i + 1) = gi l i := by simp [gi]
        rw [this, h3]
theorem toList_eq_iff (a b : ByteArray) : a.toList = b.toList ↔ a = b := ⟨fun h => bs_inj (by rw [← toList_bs, ← toList_bs, h]), fun h => by rw [h]⟩
theorem impl_itemOf_run (p : ByteArray) : ∀ (t : List S55) (k : Nat) (pre : List S55), pre.length + t.length ≤ 1048576 → t.length + 1 ≤ k → impl_itemOf.l0 k p (pre ++ t) ((pre ++ t).length : Int) (pre.length : Int) = some (fP t p pre.length) := by
  intro t
  induction t with
  | nil =>
    intro k pre hl hk
    obtain ⟨k, rfl⟩ : ∃ k', k = k' + 1 := ⟨k - 1, by omega⟩
    rw [impl_itemOf.l0, if_neg (by simp)]
    rfl
  | cons x t ih =>
    intro k pre hl hk
    obtain ⟨k, rfl⟩ : ∃ k', k = k' + 1 := ⟨k - 1, by omega⟩
    rw [List.length_cons] at hl hk
    have hw : wrap64 ((pre.length : Int) + 1) = ((pre.length + 1 : Nat) : Int) := by rw [wrap64_id (by omega) (by omega)]; omega
    rw [impl_itemOf.l0, if_pos (by simp; omega), if_pos (by omega), if_pos (by simp; omega), rdI_app, hw, fP]
    by_cases h : x.f0 = p
    · rw [if_pos ((toList_eq_iff _ _).2 h), if_pos h]
    · rw [if_neg (fun e => h ((toList_eq_iff _ _).1 e)), if_neg h]
      have h2 := ih k (pre ++ [x]) (by simp; omega) (by omega)
      rw [List.append_assoc, List.singleton_append, show (pre ++ [x]).length = pre.length + 1 by simp] at h2
      exact h2
theorem impl_itemOf_eq (l : List S55) (p : ByteArray) (hl : l.length ≤ 1048576) (k : Nat) (hk : l.length + 1 ≤ k) : impl_itemOf.f k l p = some (fP l p 0) := impl_itemOf_run p l k [] (by simpa using hl) hk
theorem spec_find_run (p : ByteArray) : ∀ (t : List S55) (k : Nat) (pre : List S55), pre.length + t.length ≤ 1048576 → t.length + 1 ≤ k → spec_l12Find.l0 k (pre ++ t) p (pre.length : Int) = some (fP t p pre.length) := by
  intro t
  induction t with
  | nil =>
    intro k pre hl hk
    obtain ⟨k, rfl⟩ : ∃ k', k = k' + 1 := ⟨k - 1, by omega⟩
    rw [spec_l12Find.l0, if_neg (by simp)]
    rfl
  | cons x t ih =>
    intro k pre hl hk
    obtain ⟨k, rfl⟩ : ∃ k', k = k' + 1 := ⟨k - 1, by omega⟩
    rw [List.length_cons] at hl hk
    have hw : wrap64 ((pre.length : Int) + 1) = ((pre.length + 1 : Nat) : Int) := by rw [wrap64_id (by omega) (by omega)]; omega
    rw [spec_l12Find.l0, if_pos (by simp; omega), if_pos (by omega), rdI_app, hw, fP]
    by_cases h : x.f0 = p
    · rw [if_pos ((toList_eq_iff _ _).2 h), if_pos h]
    · rw [if_neg (fun e => h ((toList_eq_iff _ _).1 e)), if_neg h]
      have h2 := ih k (pre ++ [x]) (by simp; omega) (by omega)
      rw [List.append_assoc, List.singleton_append, show (pre ++ [x]).length = pre.length + 1 by simp] at h2
      exact h2
theorem spec_find_eq (l : List S55) (p : ByteArray) (hl : l.length ≤ 1048576) (k : Nat) (hk : l.length + 1 ≤ k) : spec_l12Find.f k l p = some (fP l p 0) := spec_find_run p l k [] (by simpa using hl) hk
def hasT (l : List ByteArray) (p : ByteArray) : Bool := l.any fun a => decide (a = p)
theorem hasT_iff {l : List ByteArray} {p : ByteArray} : hasT l p = true ↔ p ∈ l := by
  unfold hasT
  rw [List.any_eq_true]
  exact ⟨fun ⟨a, ha, h⟩ => by rw [← of_decide_eq_true h]; exact ha, fun h => ⟨p, h, decide_eq_true rfl⟩⟩
theorem l3Has_run (p : ByteArray) : ∀ (t : List ByteArray) (k : Nat) (pre : List ByteArray), pre.length + t.length ≤ 1048576 → t.length + 1 ≤ k → spec_l3Has.l0 k (pre ++ t) p (pre.length : Int) = some (hasT t p) := by
  intro t
  induction t with
  | nil =>
    intro k pre hl hk
    obtain ⟨k, rfl⟩ : ∃ k', k = k' + 1 := ⟨k - 1, by omega⟩
    rw [spec_l3Has.l0, if_neg (by simp)]
    rfl
  | cons x t ih =>
    intro k pre hl hk
    obtain ⟨k, rfl⟩ : ∃ k', k = k' + 1 := ⟨k - 1, by omega⟩
    rw [List.length_cons] at hl hk
    have hw : wrap64 ((pre.length : Int) + 1) = ((pre.length + 1 : Nat) : Int) := by rw [wrap64_id (by omega) (by omega)]; omega
    rw [spec_l3Has.l0, if_pos (by simp; omega), if_pos (by omega), rdB_app, hw, show hasT (x :: t) p = (decide (x = p) || hasT t p) from rfl]
    by_cases h : x = p
    · rw [if_pos ((toList_eq_iff _ _).2 h), decide_eq_true h, Bool.true_or]
    · rw [if_neg (fun e => h ((toList_eq_iff _ _).1 e)), decide_eq_false h, Bool.false_or]
      have h2 := ih k (pre ++ [x]) (by simp; omega) (by omega)
      rw [List.append_assoc, List.singleton_append, show (pre ++ [x]).length = pre.length + 1 by simp] at h2
      exact h2
theorem l3Has_eq (l : List ByteArray) (p : ByteArray) (hl : l.length ≤ 1048576) (k : Nat) (hk : l.length + 1 ≤ k) : spec_l3Has.f k l p = some (hasT l p) := l3Has_run p l k [] (by simpa using hl) hk
theorem hasT_add (l : List ByteArray) (p q : ByteArray) : hasT (addS l p) q = (hasT l q || decide (p = q)) := by
  rw [Bool.eq_iff_iff, Bool.or_eq_true, hasT_iff, hasT_iff, mem_addS, decide_eq_true_eq]
  exact ⟨fun h => h.imp id Eq.symm, fun h => h.imp id Eq.symm⟩
theorem addS_new : ∀ (l : List ByteArray) (p : ByteArray), ¬ p ∈ l → (addS l p).length = l.length + 1
  | [], p, _ => rfl
  | a :: l, p, h => by
    unfold addS
    by_cases h1 : less a p = true
    · rw [if_pos h1, List.length_cons, addS_new l p (fun e => h (List.mem_cons_of_mem _ e)), List.length_cons]
    · rw [if_neg h1, if_neg (fun e => h (by rw [e]; exact List.mem_cons_self))]
      rfl
theorem filter_le {α : Type} (p q : α → Bool) : ∀ l : List α, (∀ x ∈ l, q x = true → p x = true) → (l.filter q).length ≤ (l.filter p).length
  | [], _ => Nat.le_refl _
  | a :: l, h => by
    have ih := filter_le p q l fun x hx => h x (List.mem_cons_of_mem _ hx)
    rw [List.filter_cons, List.filter_cons]
    by_cases hq : q a = true
    · rw [if_pos hq, if_pos (h a List.mem_cons_self hq)]
      simp only [List.length_cons]; omega
    · rw [if_neg hq]
      by_cases hp : p a = true
      · rw [if_pos hp]; simp only [List.length_cons]; omega
      · rw [if_neg hp]; exact ih
theorem filter_lt {α : Type} (p q : α → Bool) : ∀ (l : List α) (x : α), (∀ x ∈ l, q x = true → p x = true) → x ∈ l → p x = true → q x ≠ true → (l.filter q).length < (l.filter p).length
  | [], x, _, hx, _, _ => by cases hx
  | a :: l, x, h, hx, hp, hq => by
    rw [List.filter_cons, List.filter_cons]
    rcases List.mem_cons.1 hx with rfl | hx
    · have := filter_le p q l fun x hx => h x (List.mem_cons_of_mem _ hx)
      rw [if_neg hq, if_pos hp, List.length_cons]; omega
    · have ih := filter_lt p q l x (fun x hx => h x (List.mem_cons_of_mem _ hx)) hx hp hq
      by_cases hq2 : q a = true
      · rw [if_pos hq2, if_pos (h a List.mem_cons_self hq2)]
        simp only [List.length_cons]; omega
      · rw [if_neg hq2]
        by_cases hp2 : p a = true
        · rw [if_pos hp2]; simp only [List.length_cons]; omega
        · rw [if_neg hp2]; exact ih
def unseen (l : List S55) (out : List ByteArray) : Nat := (l.filter fun x => !hasT out x.f0).length
structure SeenIs (l : List S55) (out : List ByteArray) (m : List (ByteArray × Bool)) : Prop where
  get : ∀ p, mgetD false m p = hasT out p
  len : m.length = out.length
  few : out.length + unseen l out ≤ l.length
  sub : ∀ p ∈ out, ∃ x ∈ l, x.f0 = p
theorem SeenIs.start (l : List S55) : SeenIs l [] [] := ⟨fun p => rfl, rfl, by unfold unseen; rw [List.length_nil, Nat.zero_add]; exact List.length_filter_le _ _, fun p h => by cases h⟩
theorem unseen_lt (l : List S55) (out : List ByteArray) (x : S55) (hx : x ∈ l) (hn : hasT out x.f0 ≠ true) : unseen l (addS out x.f0) < unseen l out := by
  unfold unseen
  refine filter_lt _ _ l x (fun y hy h => ?_) hx (by simp [hn]) (by simp [hasT_add])
  rw [hasT_add] at h
  simp only [Bool.not_eq_true', Bool.or_eq_false_iff] at h ⊢
  exact h.1
theorem SeenIs.add {l : List S55} {out : List ByteArray} {m : List (ByteArray × Bool)} (h : SeenIs l out m) (x : S55) (hx : x ∈ l) (hn : hasT out x.f0 ≠ true) : SeenIs l (addS out x.f0) (m ++ [(x.f0, true)]) := by
  refine ⟨fun p => ?_, ?_, ?_, fun p hp => ?_⟩
  · rw [Go.Proofs.YtikjbfjnbhaljaaGreatDoorM.mgetD_snoc, hasT_add, h.get]
    by_cases e : x.f0 = p
    · rw [if_pos e, decide_eq_true e, Bool.or_true]
    · rw [if_neg e, decide_eq_false e, Bool.or_false]
  · rw [List.length_append, List.length_singleton, h.len, addS_new out _ (fun e => hn (hasT_iff.2 e))]
  · have h1 := unseen_lt l out x hx hn
    have h2 := addS_new out x.f0 (fun e => hn (hasT_iff.2 e))
    have h3 := h.few
    omega
  · rcases mem_addS.1 hp with hp | rfl
    · exact h.sub p hp
    · exact ⟨x, hx, rfl⟩
theorem clo_run (l : List S55) (hl : l.length ≤ 1048576) (hs : smallS l) : ∀ (M : Nat) (out : List ByteArray) (m : List (ByteArray × Bool)) (todo : List ByteArray), SeenIs l out m → todo.length + unseen l out * 1048577 ≤ M → M ≤ 4398046511104 →
    ∃ K r m', SeenIs l r m' ∧ ∀ k, K ≤ k → spec_l12Closure.l0 k l out todo = some r ∧ impl_closure.l0 k l m todo = some m' := by
  intro M
  induction M with
  | zero =>
    intro out m todo hI hM hB
    obtain rfl : todo = [] := List.eq_nil_of_length_eq_zero (by omega)
    refine ⟨1, out, m, hI, fun k hk => ?_⟩
    obtain ⟨k, rfl⟩ : ∃ k', k = k' + 1 := ⟨k - 1, by omega⟩
    rw [spec_l12Closure.l0, impl_closure.l0]
    exact ⟨rfl, rfl⟩
  | succ M ih =>
    intro out m todo hI hM hB
    by_cases h0 : todo = []
    · subst h0
      refine ⟨1, out, m, hI, fun k hk => ?_⟩
      obtain ⟨k, rfl⟩ : ∃ k', k = k' + 1 := ⟨k - 1, by omega⟩
      rw [spec_l12Closure.l0, impl_closure.l0]
      exact ⟨rfl, rfl⟩
    · obtain ⟨t, p, rfl⟩ : ∃ t p, todo = t ++ [p] := ⟨todo.dropLast, todo.getLast h0, (List.dropLast_concat_getLast h0).symm⟩
      rw [List.length_append, List.length_singleton] at hM
      have hlen : ((t ++ [p]).length : Int) = ((t.length + 1 : Nat) : Int) := by simp
      have hw : wrap64 (((t ++ [p]).length : Int) - 1) = (t.length : Int) := by rw [hlen, wrap64_id (by omega) (by omega)]; omega
      have htk : (t ++ [p]).take t.length = t := by simp
      have hrd : rdOf ByteArray.empty (t ++ [p]) (t.length : Int) = p := rdB_app t [] p
      have hout := hI.few
      have hrun : ∀ k, l.length + 1 ≤ k → spec_l12Find.f k l p = some (fP l p 0) ∧ impl_itemOf.f k l p = some (fP l p 0) := fun k hk => ⟨spec_find_eq l p hl k hk, impl_itemOf_eq l p hl k hk⟩
      rcases fP_spec p l 0 with ⟨hf, _⟩ | ⟨i, hi, hf, hp⟩
      · obtain ⟨K, r, m', hI', hK⟩ := ih out m t hI (by omega) (by omega)
        refine ⟨K + l.length + 2, r, m', hI', fun k hk => ?_⟩
        obtain ⟨k, rfl⟩ : ∃ k', k = k' + 1 := ⟨k - 1, by omega⟩
        obtain ⟨r1, r2⟩ := hrun k (by omega)
        rw [spec_l12Closure.l0, impl_closure.l0, hw, if_pos (by omega), if_pos (by omega), if_pos (by omega), if_pos (by omega), if_pos (by omega), if_pos (by omega), if_pos (by omega), if_pos (by omega),
          Option.bind_some, Option.bind_some, hrd, r1, r2, Option.bind_some, Option.bind_some, hf, if_pos (by omega), if_pos (by omega), Int.toNat_natCast, htk]
        exact hK k (by omega)
      · rw [Nat.zero_add] at hf
        have hmem : gi l i ∈ l := by rw [gi_get l i hi]; exact List.getElem_mem hi
        have hsz : p.size ≤ 1048576 := by rw [← hp]; exact (hs i).1
        by_cases hh : hasT out p = true
        · obtain ⟨K, r, m', hI', hK⟩ := ih out m t hI (by omega) (by omega)
          refine ⟨K + l.length + 2, r, m', hI', fun k hk => ?_⟩
          obtain ⟨k, rfl⟩ : ∃ k', k = k' + 1 := ⟨k - 1, by omega⟩
          obtain ⟨r1, r2⟩ := hrun k (by omega)
          rw [spec_l12Closure.l0, impl_closure.l0, hw, if_pos (by omega), if_pos (by omega), if_pos (by omega), if_pos (by omega), if_pos (by omega), if_pos (by omega), if_pos (by omega), if_pos (by omega),
            Option.bind_some, Option.bind_some, hrd, r1, r2, Option.bind_some, Option.bind_some, hf, if_neg (by omega), if_neg (by omega), l3Has_eq out p (by omega) k (by omega), Option.bind_some, hh, if_pos rfl,
            if_pos (by omega), hI.get, hh, if_pos rfl, Int.toNat_natCast, htk]
          exact hK k (by omega)
        · have hn : hasT out (gi l i).f0 ≠ true := by rw [hp]; exact hh
          have hlt := unseen_lt l out _ hmem hn
          have hI2 := hI.add _ hmem hn
          rw [hp] at hlt hI2
          have hr2 := (hs i).2.1
          have hmul : (unseen l (addS out p) + 1) * 1048577 ≤ unseen l out * 1048577 := Nat.mul_le_mul_right _ hlt
          obtain ⟨K, r, m', hI', hK⟩ := ih (addS out p) (m ++ [(p, true)]) (t ++ (gi l i).f2) hI2 (by rw [List.length_append]; omega) (by omega)
          refine ⟨K + l.length + 1048600, r, m', hI', fun k hk => ?_⟩
          obtain ⟨k, rfl⟩ : ∃ k', k = k' + 1 := ⟨k - 1, by omega⟩
          obtain ⟨r1, r2⟩ := hrun k (by omega)
          have hml := hI.len
          have hh' : hasT out p = false := by simpa using hh
          rw [spec_l12Closure.l0, impl_closure.l0, hw, if_pos (by omega), if_pos (by omega), if_pos (by omega), if_pos (by omega), if_pos (by omega), if_pos (by omega), if_pos (by omega), if_pos (by omega),
            Option.bind_some, Option.bind_some, hrd, r1, r2, Option.bind_some, Option.bind_some, hf, if_neg (by omega), if_neg (by omega), l3Has_eq out p (by omega) k (by omega), Option.bind_some, hh', if_neg Bool.false_ne_true,
            spec_l3Add_eq out p (by omega) k (by omega), Option.bind_some, if_pos (by omega), if_pos (by omega), rd_gi, Int.toNat_natCast, htk, if_pos (by omega),
            if_pos (by omega), hI.get, hh', if_neg Bool.false_ne_true, if_pos (by omega), if_pos (by omega), if_pos (by omega), if_pos (by omega)]
          exact hK k (by omega)
theorem closure_both (l : List S55) (hl : l.length ≤ 300) (hs : smallS l) (ps : List ByteArray) (hps : ps.length ≤ 1048576) :
    ∃ K r m', SeenIs l r m' ∧ ∀ k, K ≤ k → spec_l12Closure.f k l ps = some r ∧ impl_closure.f k l ps = some m' := by
  have hu : unseen l [] ≤ l.length := by unfold unseen; exact List.length_filter_le _ _
  have hmul : unseen l [] * 1048577 ≤ 300 * 1048577 := Nat.mul_le_mul_right _ (by omega)
  obtain ⟨K, r, m', hI, hK⟩ := clo_run l (by omega) hs (ps.length + unseen l [] * 1048577) [] [] ps (SeenIs.start l) (Nat.le_refl _) (by omega)
  refine ⟨K, r, m', hI, fun k hk => ?_⟩
  unfold spec_l12Closure.f impl_closure.f
  rw [Option.bind_some, Option.bind_some, if_pos (by simp; omega), if_pos (by simp; omega), List.nil_append]
  exact hK k hk
theorem used_run (l : List S55) (hl : l.length ≤ 300) (hs : smallS l) (p : ByteArray) (hp : p.size ≤ 1048576) : ∀ (n i : Nat) (acc : List ByteArray), i + n = l.length → acc.length ≤ i →
    ∃ K r, r.length ≤ l.length ∧ ((∀ x ∈ l, x.f0 ≠ p) → r = acc) ∧ ∀ k, K ≤ k → spec_UsedBy.l0 k l p acc (i : Int) = some r ∧ impl_UsedBy.l0 k l p acc l (l.length : Int) (i : Int) = some r := by
  intro n
  induction n with
  | zero =>
    intro i acc hi ha
    refine ⟨1, acc, by omega, fun _ => rfl, fun k hk => ?_⟩
    obtain ⟨k, rfl⟩ : ∃ k', k = k' + 1 := ⟨k - 1, by omega⟩
    rw [spec_UsedBy.l0, impl_UsedBy.l0, if_neg (by omega), if_neg (by omega)]
    exact ⟨rfl, rfl⟩
  | succ n ih =>
    intro i acc hi ha
    have hw : wrap64 ((i : Int) + 1) = ((i + 1 : Nat) : Int) := by rw [wrap64_id (by omega) (by omega)]; omega
    obtain ⟨K1, c, m, hI, hK1⟩ := closure_both l hl hs [(gi l i).f0] (by simp)
    have hc := hI.few
    by_cases hh : hasT c p = true
    · obtain ⟨K2, r, hr, hr2, hK2⟩ := ih (i + 1) (acc ++ [(gi l i).f0]) (by omega) (by simp; omega)
      refine ⟨K1 + K2 + l.length + 2, r, hr, fun hno => ?_, fun k hk => ?_⟩
      · obtain ⟨x, hx, e⟩ := hI.sub p (hasT_iff.1 hh)
        exact absurd e (hno x hx)
      · obtain ⟨k, rfl⟩ : ∃ k', k = k' + 1 := ⟨k - 1, by omega⟩
        obtain ⟨g1, g2⟩ := hK1 k (by omega)
        rw [spec_UsedBy.l0, impl_UsedBy.l0, if_pos (by omega), if_pos (by omega), if_pos (by omega), if_pos (by omega), if_pos (by omega), rd_gi, g1, g2, Option.bind_some, Option.bind_some, l3Has_eq c p (by omega) k (by omega), Option.bind_some, hh, if_pos rfl,
          if_pos (by omega), if_pos (by omega), hI.get, hh, if_pos rfl, if_pos (by omega), hw]
        exact hK2 k (by omega)
    · obtain ⟨K2, r, hr, hr2, hK2⟩ := ih (i + 1) acc (by omega) (by omega)
      have hh' : hasT c p = false := by simpa using hh
      refine ⟨K1 + K2 + l.length + 2, r, hr, hr2, fun k hk => ?_⟩
      obtain ⟨k, rfl⟩ : ∃ k', k = k' + 1 := ⟨k - 1, by omega⟩
      obtain ⟨g1, g2⟩ := hK1 k (by omega)
      rw [spec_UsedBy.l0, impl_UsedBy.l0, if_pos (by omega), if_pos (by omega), if_pos (by omega), if_pos (by omega), if_pos (by omega), rd_gi, g1, g2, Option.bind_some, Option.bind_some, l3Has_eq c p (by omega) k (by omega), Option.bind_some, hh', if_neg Bool.false_ne_true,
        hI.get, hh', if_neg Bool.false_ne_true, if_pos (show p.size ≤ 9223372036854775807 by omega), if_pos (by omega), hw]
      exact hK2 k (by omega)
theorem storeOk_le {k : Nat} {l : List S55} (h : impl_StoreOk.f k l = some true) : l.length ≤ 300 := by
  unfold impl_StoreOk.f at h
  by_cases h1 : l.length ≤ 300
  · exact h1
  · exfalso
    rw [if_pos (by omega)] at h
    cases h
theorem storeOk_at (l : List S55) (hs : smallS l) : ∃ b, (b = true → l.length ≤ 300) ∧ ∀ k, 1100001000 ≤ k → impl_StoreOk.f k l = some b ∧ spec_StoreOk.f k l = some b := by
  obtain ⟨b, hb1, hb2⟩ := StoreOk_both l hs 1100001000 (Nat.le_refl _)
  refine ⟨b, fun e => storeOk_le (e ▸ hb1), fun k hk => ?_⟩
  obtain ⟨b2, h1, h2⟩ := StoreOk_both l hs k hk
  have e := at_rounds (impl_StoreOk.mono l) hk hb1
  rw [h1] at e
  obtain rfl := Option.some.inj e
  exact ⟨h1, h2⟩
theorem usedBy_both (l : List S55) (hs : smallS l) (p : ByteArray) (hp : p.size ≤ 1048576) : ∃ K r, r.length ≤ 300 ∧ ∀ k, K ≤ k → impl_UsedBy.f k l p = some r ∧ spec_UsedBy.f k l p = some r := by
  obtain ⟨b, hb0, hb⟩ := storeOk_at l hs
  cases b with
  | false =>
    refine ⟨1100001001, [], by simp, fun k hk => ?_⟩
    obtain ⟨h1, h2⟩ := hb k (by omega)
    unfold impl_UsedBy.f spec_UsedBy.f
    rw [Option.bind_some, Option.bind_some, h1, h2, Option.bind_some, Option.bind_some, if_neg (by decide), if_neg (by decide)]
    obtain ⟨k, rfl⟩ : ∃ k', k = k' + 1 := ⟨k - 1, by omega⟩
    rw [spec_UsedBy.j0, if_pos rfl]
    exact ⟨rfl, rfl⟩
  | true =>
    have hl := hb0 rfl
    obtain ⟨K, r, hr, hr2, hK⟩ := used_run l hl hs p hp l.length 0 [] (by omega) (by simp)
    refine ⟨K + 1100001001, r, by omega, fun k hk => ?_⟩
    obtain ⟨h1, h2⟩ := hb k (by omega)
    unfold impl_UsedBy.f spec_UsedBy.f
    rw [Option.bind_some, Option.bind_some, h1, h2, Option.bind_some, Option.bind_some, if_pos rfl, if_pos rfl, spec_find_eq l p (by omega) k (by omega), Option.bind_some]
    obtain ⟨k, rfl⟩ : ∃ k', k = k' + 1 := ⟨k - 1, by omega⟩
    refine ⟨(hK (k + 1) (by omega)).2, ?_⟩
    rw [spec_UsedBy.j0]
    rcases fP_spec p l 0 with ⟨hf, hno⟩ | ⟨i, hi, hf, _⟩
    · rw [hf, if_pos (by decide), hr2 hno]
    · rw [hf, if_neg (by simp)]
      exact (hK k (by omega)).1
end Go.Proofs.YtikjbfjnbhaljaaGreatDoor.P
end

section
set_option linter.unusedVariables false
set_option linter.unusedSimpArgs false
namespace Go.Proofs.YtikjbfjnbhaljaaGreatDoor.P
open Go.RowKit Go.Proofs.YtikjbfjnbhaljaaGreatDoorW.PrintWords Go.Proofs.YtikjbfjnbhaljaaGreatDoorW.PrintLast Go.Proofs.YtikjbfjnbhaljaaGreatDoorW.PrintMore Go.Proofs.YtikjbfjnbhaljaaGreatDoorM
def laws_FnExactUsedBy.f (k : Nat) (l0 : List S52) (a1 : ByteArray) : Option Bool :=
 if a1.size > 1048576 then some true else (laws_szItemS.f k l0 1048576).bind fun s => if s < 0 then some true else
  (laws_toItemS.f k l0).bind fun L => (spec_UsedBy.f k L a1).bind fun W => (impl_UsedBy.f k L a1).bind fun G => (laws_eqStringS.f k G W).bind fun b1 => (laws_eqItemS.f k L L).bind fun b2 =>
   (laws_markItemS.f k L 1).bind fun m1 => (laws_markStringS.f k G 1).bind fun m2 => (laws_heldStringS.f k m2.2 1).bind fun q => if b1 = true ∧ b2 = true ∧ 0 ≤ m1.1 ∧ 0 ≤ q ∧ q = m2.1 then some true else none
set_option maxHeartbeats 8000000 in
set_option maxRecDepth 100000 in
theorem laws_FnExactUsedBy.calls (k : Nat) (A0 : Option Addr) (c0 : Nat) (l0 : List S52) (a1 : ByteArray) (r : Bool) (w : World) (hE : EnvW w) (hr0 : Kd.C k52 w A0 l0.length l0) (hc0 : l0.length ≤ c0) (h : laws_FnExactUsedBy.f k l0 a1 = some r) :
 Calls Tryz.prog 4 #[.slice A0 l0.length c0, .string a1] w fun e w' => e = .returned (.bool r) ∧ Below w.heap.size w w' := by
 have HE := Aside0.mk hE
 have HR0 := Aside0.mk hr0
 have HC0 := Aside0.mk hc0
 clear hE hr0 hc0
 have HB0 := Aside0.mk (Below.refl w.heap.size w)
 unfold laws_FnExactUsedBy.f at h
 by_cases c1 : a1.size > 1048576
 {
 rw [if_pos c1] at h
 obtain rfl := Option.some.inj h
 clear h
 have c1b0 : decide (1048576 < (a1.size : Int)) = true := decide_eq_true (by omega)
 have c1b1 : decide (1048576 < a1.size) = true := decide_eq_true c1
 clear c1
 go_enter Tryz.func4, Tryz.ntmps4
 go_wp2
 go_ret
 exact ⟨rfl, bw_ HB0⟩}
 {
 rw [if_neg c1] at h
 have c1b0 : decide (1048576 < (a1.size : Int)) = false := decide_eq_false (by omega)
 have c1b1 : decide (1048576 < a1.size) = false := decide_eq_false (by omega)
 clear c1
 replace h := Option.bind_eq_some_iff.mp h
 obtain ⟨s_, f_sz, h⟩ := h
 have F_sz := Aside0.mk f_sz
 clear f_sz
 by_cases c2 : s_ < 0
 {
 rw [if_pos c2] at h
 obtain rfl := Option.some.inj h
 clear h
 have c2b0 := decide_eq_true c2
 clear c2
 go_enter Tryz.func4, Tryz.ntmps4
 go_wp2_with (first
 | ((with_reducible refine gate_callee (f := 8) rfl ?_); refine gL_ (some 18) Tryz.func8 #[.slice A0 l0.length c0, .int .i64 1048576] ?_; (with_reducible refine (laws_szItemS.calls k A0 c0 l0 1048576 s_ _ ?s0 ?s1 F_sz.out).mono ?_); (case s0 => exact cS_ HR0 HB0); (case s1 => exact HC0.out); rintro e w11 ⟨rfl, hb⟩; refine ⟨_, rfl, ?_⟩; replace HB0 := Aside0.mk (below_step (bw_ HB0) hb); clear hb))
 go_ret
 exact ⟨rfl, bw_ HB0⟩}
 {
 rw [if_neg c2] at h
 have c2b0 := decide_eq_false c2
 clear c2
 replace h := Option.bind_eq_some_iff.mp h
 obtain ⟨L, f_to, h⟩ := h
 replace h := Option.bind_eq_some_iff.mp h
 obtain ⟨W_, f_sp, h⟩ := h
 replace h := Option.bind_eq_some_iff.mp h
 obtain ⟨G_, f_im, h⟩ := h
 replace h := Option.bind_eq_some_iff.mp h
 obtain ⟨b1, f_e1, h⟩ := h
 replace h := Option.bind_eq_some_iff.mp h
 obtain ⟨b2, f_e2, h⟩ := h
 replace h := Option.bind_eq_some_iff.mp h
 obtain ⟨⟨M1, L2⟩, f_m1, h⟩ := h
 replace h := Option.bind_eq_some_iff.mp h
 obtain ⟨⟨M2, G2⟩, f_m2, h⟩ := h
 replace h := Option.bind_eq_some_iff.mp h
 obtain ⟨q, f_q, h⟩ := h
 split at h
 case isFalse => cases h
 rename_i hc_
 obtain rfl := Option.some.inj h
 clear h
 dsimp only at hc_ f_q
 obtain ⟨rfl, rfl, h1_, h2_, h3_⟩ := hc_
 obtain rfl : M2 = q := h3_.symm
 have c3b0 : decide (M1 < 0) = false := decide_eq_false (by omega)
 have c4b0 : decide (M2 < 0) = false := decide_eq_false (by omega)
 clear h1_ h2_
 have F_to := Aside0.mk f_to
 have F_sp := Aside0.mk f_sp
 have F_im := Aside0.mk f_im
 have F_e1 := Aside0.mk f_e1
 have F_e2 := Aside0.mk f_e2
 have F_m1 := Aside0.mk f_m1
 have F_m2 := Aside0.mk f_m2
 have F_q := Aside0.mk f_q
 clear f_to f_sp f_im f_e1 f_e2 f_m1 f_m2 f_q
 go_enter Tryz.func4, Tryz.ntmps4
 go_wp2_with (first | ((with_reducible refine gate_callee (f := 8) rfl ?_); refine gL_ (some 18) Tryz.func8 #[.slice A0 l0.length c0, .int .i64 1048576] ?_; (with_reducible refine (laws_szItemS.calls k A0 c0 l0 1048576 s_ _ ?s0 ?s1 F_sz.out).mono ?_); (case s0 => exact cS_ HR0 HB0); (case s1 => exact HC0.out); rintro e w11 ⟨rfl, hb⟩; refine ⟨_, rfl, ?_⟩; replace HB0 := Aside0.mk (below_step (bw_ HB0) hb); clear hb) | ((with_reducible refine gate_callee (f := 10) rfl ?_); refine gL_ (some 22) Tryz.func10 #[.slice A0 l0.length c0] ?_; (with_reducible refine (laws_toItemS.calls k A0 c0 l0 L _ ?s0 ?s1 F_to.out).mono ?_); (case s0 => exact cS_ HR0 HB0); (case s1 => exact HC0.out); rintro e w12 ⟨v0_, rfl, ho0_, hb⟩; refine ⟨_, rfl, ?_⟩; obtain ⟨At1, ct1, rfl⟩ := Kd.S_slice ho0_; have HOt1 := Aside0.mk ho0_; replace HB0 := Aside0.mk (below_step (bw_ HB0) hb); clear hb ho0_) | ((with_reducible refine gate_callee (f := 13) rfl ?_); refine gL_ (some 24) Tryz.func13 #[.slice At1 L.length ct1, .string a1] ?_; (with_reducible refine (spec_UsedBy.calls k _ _ L a1 W_ _ ?s0 ?s1 F_sp.out).mono ?_); (case s0 => exact (Kd.S_reads' (ks_ HOt1)).2.2); (case s1 => exact (Kd.S_reads' HOt1.out).2.1); rintro e w13 ⟨v0_, rfl, ho0_, hb⟩; refine ⟨_, rfl, ?_⟩; clear HOt1; obtain ⟨Awa, cwa, rfl⟩ := Kd.R_slice ho0_; have HCwa := Aside0.mk (Kd.R_reads' ho0_).2.2; have HLwa := Aside0.mk (Kd.R_reads' ho0_).2.1; replace HB0 := Aside0.mk (below_step (bw_ HB0) hb); have HB01 := HB0; have HB1 := Aside0.mk (Below.refl w13.heap.size w13); clear hb ho0_) | ((with_reducible refine gate_callee (f := 10) rfl ?_); refine gL_ (some 26) Tryz.func10 #[.slice A0 l0.length c0] ?_; (with_reducible refine (laws_toItemS.calls k A0 c0 l0 L _ ?s0 ?s1 F_to.out).mono ?_); (case s0 => exact cS_ HR0 HB0); (case s1 => exact HC0.out); rintro e w14 ⟨v0_, rfl, ho0_, hb⟩; refine ⟨_, rfl, ?_⟩; obtain ⟨Ax0, cx0, rfl⟩ := Kd.S_slice ho0_; have HOx0 := Aside0.mk (Kd.S_lower (Kd.S_mono (Kd.S_bound ho0_) (ok' := fun k_ => w13.heap.size ≤ k_ ∧ k_ < w14.heap.size) (fun k_ hk_ => ⟨Nat.le_trans (below_size (bw_ HB1)) hk_.2.1, hk_.2.2.1⟩)) (below_size (bw_ HB1))); replace HB0 := Aside0.mk (below_step (bw_ HB0) hb); replace HB1 := Aside0.mk (below_step (bw_ HB1) hb); clear hb ho0_; have HBX := Aside0.mk (Below.refl w14.heap.size w14)) | ((with_reducible refine gate_callee (f := 14) rfl ?_); refine gL_ (some 29) Tryz.func14 #[.slice Ax0 L.length cx0, .string a1] ?_; (with_reducible refine (impl_UsedBy.calls k _ _ L a1 G_ _ ?s0 ?s1 ?s2 F_im.out).mono ?_); (case s0 => exact EnvW.below HE.out (bw_ HB0)); (case s1 => exact (Kd.S_reads' (ks_ HOx0)).2.2); (case s2 => exact (Kd.S_reads' HOx0.out).2.1); rintro e w15 ⟨v0_, rfl, ho0_, hb⟩; refine ⟨_, rfl, ?_⟩; obtain ⟨Ag0, cg0, rfl⟩ := Kd.R_slice ho0_; have HOg0 := Aside0.mk (Kd.R_lower (Kd.R_mono (Kd.R_bound ho0_) (ok' := fun k_ => w14.heap.size ≤ k_) (fun k_ hk_ => Nat.le_trans (below_size (bw_ HBX)) hk_.2.1)) (below_size (bw_ HB1))); replace HOx0 := Aside0.mk (Kd.S_below (ks_ HOx0) hb); replace HB0 := Aside0.mk (below_step (bw_ HB0) hb); replace HB1 := Aside0.mk (below_step (bw_ HB1) hb); replace HBX := Aside0.mk (below_step (bw_ HBX) hb); clear hb ho0_) | ((with_reducible refine gate_callee (f := 15) rfl ?_); refine gL_ (some 32) Tryz.func15 #[.slice Ag0 G_.length cg0, .slice Awa W_.length cwa] ?_; (with_reducible refine (laws_eqStringS.calls k _ _ G_ _ _ W_ true _ ?s0 ?s1 ?s2 ?s3 F_e1.out).mono ?_); (case s0 => exact (Kd.R_reads' (kr_ HOg0)).2.2); (case s1 => exact (Kd.R_reads' HOg0.out).2.1); (case s2 => exact cS_ HCwa HB1); (case s3 => exact HLwa.out); rintro e w' ⟨rfl, ⟨nd, rfl⟩⟩; refine ⟨_, rfl, ?_⟩; skip) | ((with_reducible refine gate_callee (f := 10) rfl ?_); refine gL_ (some 36) Tryz.func10 #[.slice A0 l0.length c0] ?_; (with_reducible refine (laws_toItemS.calls k A0 c0 l0 L _ ?s0 ?s1 F_to.out).mono ?_); (case s0 => exact cS_ HR0 HB0); (case s1 => exact HC0.out); rintro e w16 ⟨v0_, rfl, ho0_, hb⟩; refine ⟨_, rfl, ?_⟩; obtain ⟨At2, ct2, rfl⟩ := Kd.S_slice ho0_; have HOt2 := Aside0.mk ho0_; replace HOx0 := Aside0.mk (Kd.S_below (ks_ HOx0) hb); replace HOg0 := Aside0.mk (Kd.R_below (kr_ HOg0) hb); replace HB0 := Aside0.mk (below_step (bw_ HB0) hb); replace HB1 := Aside0.mk (below_step (bw_ HB1) hb); replace HBX := Aside0.mk (below_step (bw_ HBX) hb); clear hb ho0_) | ((with_reducible refine gate_callee (f := 12) rfl ?_); refine gL_ (some 37) Tryz.func12 #[.slice Ax0 L.length cx0, .slice At2 L.length ct2] ?_; (with_reducible refine (laws_eqItemS.calls k _ _ L _ _ L true _ ?s0 ?s1 ?s2 ?s3 F_e2.out).mono ?_); (case s0 => exact (Kd.S_reads' (ks_ HOx0)).2.2); (case s1 => exact (Kd.S_reads' HOx0.out).2.1); (case s2 => exact (Kd.S_reads' (ks_ HOt2)).2.2); (case s3 => exact (Kd.S_reads' HOt2.out).2.1); rintro e w17 ⟨rfl, hb⟩; refine ⟨_, rfl, ?_⟩; clear HOt2; replace HOx0 := Aside0.mk (Kd.S_below (ks_ HOx0) hb); replace HOg0 := Aside0.mk (Kd.R_below (kr_ HOg0) hb); replace HB0 := Aside0.mk (below_step (bw_ HB0) hb); replace HB1 := Aside0.mk (below_step (bw_ HB1) hb); replace HBX := Aside0.mk (below_step (bw_ HBX) hb); clear hb) | ((with_reducible refine gate_callee (f := 16) rfl ?_); refine gL_ (some 41) Tryz.func16 #[.slice Ax0 L.length cx0, .int .i64 1] ?_; (with_reducible refine (laws_markItemS.calls k (fun k_ => w13.heap.size ≤ k_ ∧ k_ < w14.heap.size) (.slice Ax0 L.length cx0) L 1 M1 L2 w13 _ ?s0 ?s1 F_m1.out).mono ?_); (case s0 => exact bw_ HB1); (case s1 => exact ks_ HOx0); rintro e w18 ⟨rfl, ho_, hb, hk_⟩; refine ⟨_, rfl, ?_⟩; replace HOg0 := Aside0.mk (Kd.R_kept (kr_ HOg0) hk_ (fun k_ h1_ h2_ => by (try dsimp only at h1_ h2_); omega)); clear HOx0; replace HB1 := Aside0.mk hb; replace HB0 := Aside0.mk (below_step HB01.out hb); clear HBX; clear hb hk_ ho_) | (go_at_call 15; (with_reducible refine (laws_eqStringS.calls k _ _ G_ _ _ W_ true _ ?s0 ?s1 ?s2 ?s3 F_e1.out).mono ?_); (case s0 => exact (Kd.R_reads' (kr_ HOg0)).2.2); (case s1 => exact (Kd.R_reads' HOg0.out).2.1); (case s2 => exact cS_ HCwa HB1); (case s3 => exact HLwa.out); rintro e w' ⟨rfl, ⟨nd, rfl⟩⟩) | ((with_reducible refine gate_callee (f := 17) rfl ?_); refine gL_ (some 52) Tryz.func17 #[.slice Ag0 G_.length cg0, .int .i64 1] ?_; (with_reducible refine (laws_markStringS.calls k (fun k_ => w14.heap.size ≤ k_) (.slice Ag0 G_.length cg0) G_ 1 M2 G2 w13 _ ?s0 ?s1 F_m2.out).mono ?_); (case s0 => exact bw_ HB1); (case s1 => exact kr_ HOg0); rintro e w20 ⟨rfl, ho_, hb, hk_⟩; refine ⟨_, rfl, ?_⟩; replace HOg0 := Aside0.mk ho_; have HNg0 := Aside0.mk (Kd.R_reads' ho_).1; replace HB1 := Aside0.mk hb; replace HB0 := Aside0.mk (below_step HB01.out hb); clear hb hk_ ho_) | ((with_reducible refine gate_callee (f := 18) rfl ?_); refine gL_ (some 55) Tryz.func18 #[.slice Ag0 G2.length cg0, .int .i64 1] ?_ (hargs := (by (try simp only [List.map_toArray, List.map_cons, List.map_nil]); first | done | rfl | (rw [HNg0.out]; rfl) | (rw [← HNg0.out]; rfl))); (with_reducible refine (laws_heldStringS.calls k _ _ G2 1 M2 _ ?s0 ?s1 F_q.out).mono ?_); (case s0 => exact (Kd.R_reads' (kr_ HOg0)).2.2); (case s1 => exact (by have h_ := (Kd.R_reads' HOg0.out).2.1; rw [HNg0.out] at h_; exact h_)); rintro e w21 ⟨rfl, hb⟩; refine ⟨_, rfl, ?_⟩; replace HOg0 := Aside0.mk (Kd.R_below (kr_ HOg0) hb); replace HB0 := Aside0.mk (below_step (bw_ HB0) hb); replace HB1 := Aside0.mk (below_step (bw_ HB1) hb); clear hb) | ((with_reducible refine gate_callee (f := 10) rfl ?_); refine gL_ (some 62) Tryz.func10 #[.slice A0 l0.length c0] ?_; (with_reducible refine (laws_toItemS.calls k A0 c0 l0 L _ ?s0 ?s1 F_to.out).mono ?_); (case s0 => exact cS_ HR0 HB0); (case s1 => exact HC0.out); rintro e w22 ⟨v0_, rfl, ho0_, hb⟩; refine ⟨_, rfl, ?_⟩; obtain ⟨At3, ct3, rfl⟩ := Kd.S_slice ho0_; have HOt3 := Aside0.mk ho0_; replace HOg0 := Aside0.mk (Kd.R_below (kr_ HOg0) hb); replace HB0 := Aside0.mk (below_step (bw_ HB0) hb); replace HB1 := Aside0.mk (below_step (bw_ HB1) hb); clear hb ho0_) | ((with_reducible refine gate_callee (f := 14) rfl ?_); refine gL_ (some 64) Tryz.func14 #[.slice At3 L.length ct3, .string a1] ?_; (with_reducible refine (impl_UsedBy.calls k _ _ L a1 G_ _ ?s0 ?s1 ?s2 F_im.out).mono ?_); (case s0 => exact EnvW.below HE.out (bw_ HB0)); (case s1 => exact (Kd.S_reads' (ks_ HOt3)).2.2); (case s2 => exact (Kd.S_reads' HOt3.out).2.1); rintro e w23 ⟨v0_, rfl, ho0_, hb⟩; refine ⟨_, rfl, ?_⟩; clear HOt3; obtain ⟨Ah0, ch0, rfl⟩ := Kd.R_slice ho0_; have HOh0 := Aside0.mk ho0_; replace HOg0 := Aside0.mk (Kd.R_below (kr_ HOg0) hb); replace HB0 := Aside0.mk (below_step (bw_ HB0) hb); replace HB1 := Aside0.mk (below_step (bw_ HB1) hb); clear hb ho0_) | ((with_reducible refine gate_callee (f := 15) rfl ?_); refine gL_ (some 67) Tryz.func15 #[.slice Ah0 G_.length ch0, .slice Awa W_.length cwa] ?_; (with_reducible refine (laws_eqStringS.calls k _ _ G_ _ _ W_ true _ ?s0 ?s1 ?s2 ?s3 F_e1.out).mono ?_); (case s0 => exact (Kd.R_reads' (kr_ HOh0)).2.2); (case s1 => exact (Kd.R_reads' HOh0.out).2.1); (case s2 => exact cS_ HCwa HB1); (case s3 => exact HLwa.out); rintro e w' ⟨rfl, ⟨nd, rfl⟩⟩; refine ⟨_, rfl, ?_⟩; skip) | ((with_reducible refine gate_callee (f := 18) rfl ?_); refine gL_ (some 71) Tryz.func18 #[.slice Ag0 G2.length cg0, .int .i64 1] ?_ (hargs := (by (try simp only [List.map_toArray, List.map_cons, List.map_nil]); first | done | rfl | (rw [HNg0.out]; rfl) | (rw [← HNg0.out]; rfl))); (with_reducible refine (laws_heldStringS.calls k _ _ G2 1 M2 _ ?s0 ?s1 F_q.out).mono ?_); (case s0 => exact (Kd.R_reads' (kr_ HOg0)).2.2); (case s1 => exact (by have h_ := (Kd.R_reads' HOg0.out).2.1; rw [HNg0.out] at h_; exact h_)); rintro e w24 ⟨rfl, hb⟩; refine ⟨_, rfl, ?_⟩; replace HOg0 := Aside0.mk (Kd.R_below (kr_ HOg0) hb); replace HOh0 := Aside0.mk (Kd.R_below (kr_ HOh0) hb); replace HB0 := Aside0.mk (below_step (bw_ HB0) hb); replace HB1 := Aside0.mk (below_step (bw_ HB1) hb); clear hb))
 go_ret
 exact ⟨rfl, bw_ HB0⟩}}
end Go.Proofs.YtikjbfjnbhaljaaGreatDoor.P
end

section
set_option linter.unusedVariables false
set_option linter.unusedSimpArgs false
namespace Go.Proofs.YtikjbfjnbhaljaaGreatDoor.P
open Go.RowKit Go.Proofs.YtikjbfjnbhaljaaGreatDoorW.PrintWords Go.Proofs.YtikjbfjnbhaljaaGreatDoorW.PrintLast Go.Proofs.YtikjbfjnbhaljaaGreatDoorW.PrintMore Go.Proofs.YtikjbfjnbhaljaaGreatDoorM
theorem eqStringS_refl (l : List ByteArray) (hl : l.length ≤ 1048576) (k : Nat) (hk : l.length + 1 ≤ k) : laws_eqStringS.f k l l = some true := by
  unfold laws_eqStringS.f
  rw [if_pos rfl]
  exact eqStringS_l0 _ hl l.length k 0 (by omega) (by omega)
theorem tameI_of (l : List S52) (hs : ∀ i, smallJ (gj l i)) : tameI (l.map cvI) := fun x hx => by
  obtain ⟨y, hy, rfl⟩ := List.mem_map.1 hx
  obtain ⟨i, hi, rfl⟩ := List.getElem_of_mem hy
  rw [← gj_get l i hi]
  obtain ⟨_, h2, h4, _⟩ := hs i
  exact ⟨h2, by show ((gj l i).f4.map cv).length ≤ _; rw [List.length_map]; exact h4⟩
theorem FnExactUsedBy_pure (l : List S52) (a1 : ByteArray) (hf : fitsS l) : ∃ k, laws_FnExactUsedBy.f k l a1 = some true := by
  by_cases hp : a1.size > 1048576
  · refine ⟨0, ?_⟩
    unfold laws_FnExactUsedBy.f
    rw [if_pos hp]
  obtain ⟨r, hr, h2⟩ := szItemS_eq l hf (l.length + 9223372036854775809) (by omega)
  by_cases hneg : r < 0
  · refine ⟨l.length + 9223372036854775809, ?_⟩
    unfold laws_FnExactUsedBy.f
    rw [if_neg hp, hr, Option.bind_some, if_pos hneg]
  · obtain ⟨hl, hs⟩ := h2 (by omega)
    obtain ⟨hsm, _, hl2, h4⟩ := passed l hl hs (l.length + 9223372036854775809) (Nat.le_refl _)
    obtain ⟨K1, v, hv0, hv⟩ := usedBy_both (l.map cvI) hsm a1 (by omega)
    obtain ⟨K, hK⟩ : ∃ K, K = K1 + (l.length + 9223372036854775809) := ⟨_, rfl⟩
    refine ⟨K, ?_⟩
    obtain ⟨_, heq, _⟩ := passed l hl hs K (by omega)
    obtain ⟨hv1, hv2⟩ := hv K (by omega)
    have hr2 := at_rounds (fun k => laws_szItemS.mono l 1048576 k) (show l.length + 9223372036854775809 ≤ K by omega) hr
    have ht := tameI_of l hs
    have hW := wIs_le (l.map cvI) ht
    have hW2 := Nat.mul_le_mul_right 5242883 hl2
    have hm := markItemS_mIs (l.map cvI) ht 1 (by omega) (by omega) K (by omega)
    have hm2 := markStringS_mTx v 1 (by omega) K (by omega)
    have hq := heldStringS_mTx v.length 1 (by omega) K (by omega)
    unfold laws_FnExactUsedBy.f
    rw [if_neg hp, hr2, Option.bind_some, if_neg hneg]
    simp only [toItemS_eq l hl hs K (by omega), Option.bind_some, hv1, hv2, heq, eqStringS_refl v (by omega) K (by omega)]
    have e1 : ((1 : Nat) : Int) = 1 := rfl
    rw [e1] at hm hm2 hq
    rw [hm, Option.bind_some, hm2, Option.bind_some]
    dsimp only
    rw [hq, Option.bind_some, if_pos ⟨trivial, trivial, Int.natCast_nonneg _, Int.natCast_nonneg _, rfl⟩]
end Go.Proofs.YtikjbfjnbhaljaaGreatDoor.P
end

section
namespace Go.Proofs.YtikjbfjnbhaljaaGreatDoor.fnExactUsedBy
open Go.ChangeShapes Go.WideShapes Go.ChangeAt Go.RowKit Go.Proofs.YtikjbfjnbhaljaaGreatDoorM
set_option linter.unusedVariables false
set_option maxRecDepth 100000
theorem own : ownKnob Tryz.prog.godebug = none := by kernel_rfl
theorem laidOut : laidOutB Tryz.prog = true := by kernel_rfl
def gok70 (b : P.S70) : Prop := b.f0.size ≤ maxLen ∧ (Lit.int .i64 b.f1).wf = true ∧ b.f2.size ≤ maxLen ∧ True
theorem opn70 (w : World) : Opn Tryz.prog w 70 P.k70 gok70 :=
  Opn.iso _ (fun y => ⟨y.1, y.2.1, y.2.2.1, y.2.2.2⟩) (fun _ => rfl) (Opn.struct Tryz.underlying70 (OpnF.cons _ rfl (by kernel_rfl) rfl (Opn.string Tryz.underlying9) (OpnF.cons _ rfl (by kernel_rfl) rfl (Opn.int Tryz.underlying2) (OpnF.cons _ rfl (by kernel_rfl) rfl (Opn.string Tryz.underlying9) (OpnF.last _ rfl rfl (by kernel_rfl) (Opn.bool Tryz.underlying4))))))
def gok52 (b : P.S52) : Prop := b.f0.size ≤ maxLen ∧ b.f1.size ≤ maxLen ∧ (b.f2.length ≤ maxLen ∧ ∀ a ∈ b.f2, a.size ≤ maxLen) ∧ b.f3.size ≤ maxLen ∧ (b.f4.length ≤ maxLen ∧ ∀ a ∈ b.f4, gok70 a)
theorem opn52 (w : World) : Opn Tryz.prog w 52 P.k52 gok52 :=
  Opn.iso _ (fun y => ⟨y.1, y.2.1, y.2.2.1, y.2.2.2.1, y.2.2.2.2⟩) (fun _ => rfl) (Opn.struct Tryz.underlying52 (OpnF.cons _ rfl (by kernel_rfl) rfl (Opn.string Tryz.underlying9) (OpnF.cons _ rfl (by kernel_rfl) rfl (Opn.string Tryz.underlying9) (OpnF.cons _ rfl (by kernel_rfl) rfl (Opn.slice Tryz.underlying29 (by kernel_rfl) (Opn.string Tryz.underlying9)) (OpnF.cons _ rfl (by kernel_rfl) rfl (Opn.string Tryz.underlying9) (OpnF.last _ rfl rfl (by kernel_rfl) (Opn.slice Tryz.underlying35 (by kernel_rfl) (opn70 w))))))))
theorem env {W : World} (h : W.ShapedOpen Tryz.prog) : EnvW W :=
  ⟨Go.Proofs.cell_of_shapedOpen_int (zero := #[.int .i64 0]) (t := 3) h (of_decide_eq_true (by kernel_rfl)) (by kernel_rfl) rfl (by kernel_rfl) (by kernel_rfl) Tryz.underlying3⟩
theorem contract (H : Type) (enc : TypeId × Value → H) (W : World) (base : Nat) (args : Array Value) (ds gs : List (DataW H)) (before : List MemPlace)
    (hval0 : ∀ (j : Nat) t v, Tryz.f4.params[j]? = some t → args[j]? = some v → Value.okWide Tryz.prog W .any base t v)
    (hW : DataW.Whole enc Tryz.prog Tryz.f4.params.toList Rows.fnExactUsedBySpec.vars false W args.toList ds gs before) (hS : W.ShapedOpen Tryz.prog) :
    Calls Tryz.prog 4 args W fun e W' => ∃ v, e = .returned v ∧ Rows.fnExactUsedBySpec.post enc Tryz.prog Tryz.f4 false true false false W args v W' := by
  have hval := hval0
  have hW' := hW
  obtain ⟨p, q, hA0, hV, rfl, hfz, hnd⟩ := hW
  have hA : DataW.TrodAll enc Tryz.prog W 0 (fun _ => true) true Tryz.f4.params.toList args.toList ds p := hA0
  rw [Tryz.params4] at hA hval
  obtain ⟨v0, vs0, d0, ds0, p0, q0, hargs, rfl, rfl, h0, r0⟩ := trodAll_cons hA
  obtain ⟨v1, vs1, d1, ds1, p1, q1, rfl, rfl, rfl, h1, r1⟩ := trodAll_cons r0
  obtain ⟨rfl, rfl, rfl⟩ := trodAll_nil r1
  obtain rfl : args = #[v0, v1] := by cases args; simp_all
  obtain ⟨rfl, rfl⟩ := trodVars_none hV
  have k0 := h0
  have lt0 : ∀ x ∈ p0, x.block < W.heap.size := by obtain ⟨m, hm⟩ := k0; exact DataW.trod_lt m _ _ _ hm
  obtain ⟨l0, A0, c0, rfl, hc0, hr0, hl0, hg0⟩ := Opn.argSlice Tryz.underlying22 (by kernel_rfl) (opn52 W) (hval 0 22 v0 rfl rfl) h0
  obtain ⟨a1, rfl, rfl, rfl, y1⟩ := Go.ChangeMaps.open_string Tryz.underlying9 (hval 1 9 v1 rfl rfl) h1
  clear hA0 hval0
  obtain ⟨k, hk⟩ := P.FnExactUsedBy_pure l0 a1 (P.fitsS_of l0 hl0 hg0)
  refine (P.laws_FnExactUsedBy.calls k A0 c0 l0 a1 true W (env hS) hr0 hc0 hk).mono fun e W' ⟨he, bel⟩ => ?_
  subst he
  exact ⟨_, rfl, _, _, _, [], _, [], hW', trodAll_mk1 (shut_bool Tryz.underlying4 _), (trodAll_cons_mk (Below.trod laidOut (by kernel_rfl) (of_decide_eq_true (by kernel_rfl)) k0 bel lt0) (trodAll_cons_mk (Go.ChangeMaps.shut_string Tryz.underlying9 y1) trodAll_mk0)), rfl, bel.frame _, fun h => by cases h⟩
noncomputable def laidWorld (os : Os) : World :=
  { World.holding Tryz.prog os ⟨#[], #[], []⟩ with heap := (Array.modify (Array.modify (World.holding Tryz.prog os ⟨#[], #[], []⟩).heap 2 (fun o => match o with
      | .cells _ t frozen => .cells #[(.int .u8 128), (.int .u8 191), (.int .u8 160), (.int .u8 191), (.int .u8 128), (.int .u8 159), (.int .u8 144), (.int .u8 191), (.int .u8 128), (.int .u8 143), (.int .u8 0), (.int .u8 0), (.int .u8 0), (.int .u8 0), (.int .u8 0), (.int .u8 0), (.int .u8 0), (.int .u8 0), (.int .u8 0), (.int .u8 0), (.int .u8 0), (.int .u8 0), (.int .u8 0), (.int .u8 0), (.int .u8 0), (.int .u8 0), (.int .u8 0), (.int .u8 0), (.int .u8 0), (.int .u8 0), (.int .u8 0), (.int .u8 0)] t frozen
      | o => o)) 1 (fun o => match o with
      | .cells _ t frozen => .cells (Pinned.utf8FirstZ.map fun (n : Nat) => Value.int .u8 n).toArray t frozen
      | o => o)) }
theorem laid_met (os : Os) : laidMet Tryz.prog Rows.fnExactUsedByRow.laid ((laidWorld os).forCall (fun _ _ => 0) ⟨#[], #[.slice none 0 0, .string ByteArray.empty], []⟩).memory :=
  laidMet_of_run' 8 (by kernel_rfl) (by kernel_rfl)
theorem reads (os : Os) {H : Type} (enc : TypeId × Value → H) : ∃ places, DataW.whole enc Tryz.prog ((laidWorld os).forCall (fun _ _ => 0) ⟨#[], #[.slice none 0 0, .string ByteArray.empty], []⟩).memory Tryz.f4.params.toList Rows.fnExactUsedBySpec.vars false (#[.slice none 0 0, .string ByteArray.empty] : Array Value).toList 8 = some ([.nil, .lit (.string [])], [], places) :=
  ⟨[], by kernel_rfl⟩
theorem lifted (os : Os) (started : os.Started) (H : Type) (enc : TypeId × Value → H) (F : Stop.Interp) :
    ReturnsInHanded {} Tryz.checked os 4 .any ((OpenSpec.ofChange Rows.fnExactUsedBySpec).preRow enc Tryz.prog Tryz.f4 Rows.fnExactUsedByRow.domain false Rows.fnExactUsedByRow.laid) (((OpenSpec.ofChange Rows.fnExactUsedBySpec).at F).post enc Tryz.prog Tryz.f4 false true false false) := by
  obtain ⟨places, hx⟩ := reads os enc
  refine returnsInHanded_of_row (C := Tryz.checked) (s := OpenSpec.ofChange Rows.fnExactUsedBySpec) own started (by kernel_rfl) Tryz.func4
    (witness_row_at (enc := enc) (C := Tryz.checked) false (laidWorld os) #[.slice none 0 0, .string ByteArray.empty] rfl (by kernel_rfl) (by kernel_rfl) (by kernel_rfl)
      (OpenSpec.preRow_of_cond 8 hx (by kernel_rfl) (fun k hk => by cases hk) (by kernel_rfl) (laid_met os))) ?_
  intro W base args ds gs before hval hW _ _ _ hL hS _
  exact contract H enc W base args ds gs before hval hW hS
theorem said : Rows.FnExactUsedBySaid :=
  OpenClaim.holds_of_cond 4 Tryz.f4 rfl rfl rfl rfl rfl rfl rfl ⟨rfl, rfl, rfl, rfl, rfl⟩ rfl rfl rfl rfl rfl (by kernel_rfl) Tryz.func4 (by kernel_rfl)
    (of_decide_eq_true (by kernel_rfl)) (by unfold Func.isWrapper; first | (rw [if_pos (by decide +kernel)]; kernel_rfl) | (rw [if_neg (by decide +kernel)]; exact ⟨rfl, rfl⟩))
    (fun os started H enc _ F => by rw [OpenClaim.pre_eq_preRow]; exact lifted os started H enc F)
theorem plain (f : FuncId) (fn : Func) (hf : Tryz.pinned.checked.prog.funcNamed "loop.example/g00023/laws.FnExactUsedBy" = some f) (hfn : Tryz.pinned.checked.prog.funcs[f]? = some fn) :
    false = Tryz.pinned.checked.prog.looks [] ∧ ∀ (j : Nat) t, fn.params[j]? = some t → Tryz.pinned.checked.prog.wantsStandIn t = false := by
  obtain rfl : f = 4 := Option.some.inj ((show Tryz.prog.funcNamed "loop.example/g00023/laws.FnExactUsedBy" = some 4 by kernel_rfl).symm.trans hf) |>.symm
  obtain rfl : fn = Tryz.f4 := (Option.some.inj (Tryz.func4.symm.trans hfn)).symm
  refine ⟨by kernel_rfl, fun j t ht => ?_⟩
  rw [Tryz.params4] at ht
  have hm := Array.mem_of_getElem? ht
  simp only [List.mem_toArray, List.mem_cons, List.not_mem_nil, or_false] at hm
  rcases hm with rfl | rfl
  · exact (show Tryz.prog.wantsStandIn 22 = false by kernel_rfl)
  · exact (show Tryz.prog.wantsStandIn 9 = false by kernel_rfl)
theorem card : Rows.FnExactUsedByCardSaid :=
  Claim7.holds_tied_plain_at .later [] _ _ _ _ said (fun _ h => by cases h) (by kernel_rfl) (fun _ h => by cases h) fnExactUsedBy_row_tie rfl ⟨rfl, rfl⟩ (by kernel_rfl) rfl plain (by kernel_rfl)
#print axioms card
end Go.Proofs.YtikjbfjnbhaljaaGreatDoor.fnExactUsedBy
namespace Go.Proofs.YtikjbfjnbhaljaaGreatDoor
/-- The card, under a short name, for the claim. -/
theorem fnExactUsedBy_card : Rows.FnExactUsedByCardSaid := fnExactUsedBy.card
end Go.Proofs.YtikjbfjnbhaljaaGreatDoor
end
