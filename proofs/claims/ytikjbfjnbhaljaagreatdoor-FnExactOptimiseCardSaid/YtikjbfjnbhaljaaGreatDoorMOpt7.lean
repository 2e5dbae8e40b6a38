/- FnExactOptimise: the law's row and its card: its walk, the law over lists, and what the arguments read as, joined. Whatever the arguments: the call returns true, and the arguments read as before. Condition: the listed tables hold what the program's text lays (the card ties that). -/
import Derived.Test.YtikjbfjnbhaljaaGreatDoorMOpt2
import Derived.Test.YtikjbfjnbhaljaaGreatDoorMOpt3
import Derived.Test.YtikjbfjnbhaljaaGreatDoorMOpt4
import Derived.Sort.Walk0
import Derived.Lib.IndexMore
import Derived.Test.YtikjbfjnbhaljaaGreatDoorMOpt5
import Derived.Test.YtikjbfjnbhaljaaGreatDoorMOpt6
import Derived.Test.YtikjbfjnbhaljaaGreatDoorCards
import Derived.Test.YtikjbfjnbhaljaaGreatDoorTie
import Derived.WalkKit
import Derived.ProofKit
import Derived.OpenShut
import Derived.ShutString
import Derived.ChangeOld
import Derived.Below
import Derived.Carry
import Derived.Deep.DeepHandedRow
import Derived.Shelf.Vars
import Derived.LaidLaws

section
set_option linter.unusedVariables false
set_option linter.unusedSimpArgs false
namespace Go.Proofs.YtikjbfjnbhaljaaGreatDoor.P
open Go.RowKit Go.Proofs.YtikjbfjnbhaljaaGreatDoorW.PrintWords
theorem wrap64_id {n : Int} (h1 : -9223372036854775808 ≤ n) (h2 : n ≤ 9223372036854775807) : wrap64 n = n := by
  unfold wrap64; omega
theorem wrap32_id {n : Int} (h1 : -2147483648 ≤ n) (h2 : n ≤ 2147483647) : wrap32 n = n := by
  unfold wrap32; omega
def bs (s : ByteArray) : List UInt8 := s.data.toList
theorem bs_length (s : ByteArray) : (bs s).length = s.size := data_length s
theorem toList_bs (s : ByteArray) : s.toList = bs s := Lib.toList_data s
theorem bs_inj {a b : ByteArray} (h : bs a = bs b) : a = b := by
  cases a; cases b
  simp only [bs] at h
  congr 1
  exact Array.ext' h
theorem bt_nat (s : ByteArray) (i : Nat) (h : i < s.size) : bt s (i : Int) = (((bs s)[i]'(by rw [bs_length]; exact h)).toNat : Int) := by
  unfold bt
  rw [dif_pos (by simpa using h)]
  simp [bs, ByteArray.getElem_eq_getElem_data]
theorem bs_nil {s : ByteArray} : bs s = [] ↔ s.size = 0 := by
  rw [← bs_length]
  exact List.length_eq_zero_iff.symm
theorem bs_extract (s : ByteArray) (a b : Nat) : bs (s.extract a b) = ((bs s).drop a).take (b - a) := Lib.extract_data s a b
theorem bs_upto (s : ByteArray) (b : Nat) : bs (s.extract 0 b) = (bs s).take b := by rw [bs_extract]; simp
end Go.Proofs.YtikjbfjnbhaljaaGreatDoor.P
end

section
set_option linter.unusedVariables false
set_option linter.unusedSimpArgs false
namespace Go.Proofs.YtikjbfjnbhaljaaGreatDoor.P
open Go.RowKit Go.Proofs.YtikjbfjnbhaljaaGreatDoorW.PrintWords
def isL (c : Int) : Bool := decide ((97 ≤ c ∧ c ≤ 122) ∨ (65 ≤ c ∧ c ≤ 90))
def isD (c : Int) : Bool := decide (48 ≤ c ∧ c ≤ 57)
def okC (c : Int) : Bool := isL c || (isD c || decide (c = 45 ∨ c = 95 ∨ c = 46 ∨ c = 43))
theorem impl_letter_eq (c : Int) : impl_letter.f c = some (isL c) := by
  unfold impl_letter.f isL
  repeat' split
  all_goals (congr 1; first | (rw [decide_eq_decide]; omega) | (symm; rw [decide_eq_true_iff]; omega) | (symm; rw [decide_eq_false_iff_not]; omega))
theorem impl_digit_eq (c : Int) : impl_digit.f c = some (isD c) := by
  unfold impl_digit.f isD
  repeat' split
  all_goals (congr 1; first | (rw [decide_eq_decide]; omega) | (symm; rw [decide_eq_true_iff]; omega) | (symm; rw [decide_eq_false_iff_not]; omega))
theorem spec_l1Letter_eq (c : Int) : spec_l1Letter.f c = some (isL c) := by
  unfold spec_l1Letter.f isL
  repeat' split
  all_goals (congr 1; first | (rw [decide_eq_decide]; omega) | (symm; rw [decide_eq_true_iff]; omega) | (symm; rw [decide_eq_false_iff_not]; omega))
theorem spec_l1Digit_eq (c : Int) : spec_l1Digit.f c = some (isD c) := by
  unfold spec_l1Digit.f isD
  repeat' split
  all_goals (congr 1; first | (rw [decide_eq_decide]; omega) | (symm; rw [decide_eq_true_iff]; omega) | (symm; rw [decide_eq_false_iff_not]; omega))
def okFrom (s : ByteArray) : Nat → Nat → Bool
  | 0, _ => true
  | n + 1, i => okC (bt s i) && okFrom s n (i + 1)
def nameOk (s : ByteArray) : Bool := decide (1 ≤ s.size) && decide (s.size ≤ 60) && (bt s 0 != 46) && okFrom s s.size 0
theorem impl_NameOk_l0 (s : ByteArray) (hs : s.size ≤ 60) : ∀ n k i : Nat, n + 1 ≤ k → i + n = s.size → impl_NameOk.l0 k s (s.size : Int) (i : Int) = some (okFrom s n i) := by
  intro n
  induction n with
  | zero =>
    intro k i hk hi
    obtain ⟨k, rfl⟩ : ∃ k', k = k' + 1 := ⟨k - 1, by omega⟩
    rw [impl_NameOk.l0, if_neg (by omega), okFrom]
  | succ n ih =>
    intro k i hk hi
    obtain ⟨k, rfl⟩ : ∃ k', k = k' + 1 := ⟨k - 1, by omega⟩
    have hw : wrap64 ((i : Int) + 1) = ((i + 1 : Nat) : Int) := by rw [wrap64_id (by omega) (by omega)]; omega
    have hr := bt_range s (i : Int)
    have ihn := ih k (i + 1) (by omega) (by omega)
    rw [impl_NameOk.l0, if_pos (by omega), if_pos (by omega), if_pos (by omega), hw, okFrom, wrap32_id (by omega) (by omega)]
    have he : (⟨#[45, 95, 46, 43]⟩ : ByteArray).data.toList = [45, 95, 46, 43] := rfl
    have hcr : strings_ContainsRune.f (⟨#[45, 95, 46, 43]⟩ : ByteArray) (bt s (i : Int)) = some (decide (bt s (i : Int) = 45 ∨ bt s (i : Int) = 95 ∨ bt s (i : Int) = 46 ∨ bt s (i : Int) = 43)) := by
      unfold strings_ContainsRune.f
      rw [if_pos he, if_pos (by omega), if_pos (by omega)]
    rw [impl_letter_eq, impl_digit_eq, hcr, ihn, okC]
    simp only [Option.bind_some]
    cases isL (bt s (i : Int)) <;> cases isD (bt s (i : Int)) <;> cases decide (bt s (i : Int) = 45 ∨ bt s (i : Int) = 95 ∨ bt s (i : Int) = 46 ∨ bt s (i : Int) = 43) <;> simp
theorem impl_NameOk_eq (s : ByteArray) (k : Nat) (hk : 63 ≤ k) : impl_NameOk.f k s = some (nameOk s) := by
  obtain ⟨k, rfl⟩ : ∃ k', k = k' + 1 := ⟨k - 1, by omega⟩
  unfold impl_NameOk.f nameOk
  by_cases h1 : s.size < 1
  · rw [if_pos (by omega), impl_NameOk.j0]
    simp; omega
  · rw [if_neg (by omega)]
    by_cases h2 : s.size > 60
    · rw [if_pos (by omega), impl_NameOk.j0]
      simp; omega
    · rw [if_neg (by omega), if_pos (by omega), impl_NameOk.j0]
      have := impl_NameOk_l0 s (by omega) s.size k 0 (by omega) (by omega)
      rw [show ((0 : Nat) : Int) = 0 from rfl] at this
      rw [this]
      by_cases h3 : bt s 0 = 46
      · simp [h3]
      · have h4 : (bt s 0 == 46) = false := by simpa using h3
        simp [h3, h4, show 1 ≤ s.size by omega, show s.size ≤ 60 by omega]
theorem spec_NameOk_l0 (s : ByteArray) (hs : s.size ≤ 60) : ∀ n k i : Nat, n + 1 ≤ k → i + n = s.size → spec_NameOk.l0 k s (i : Int) = some (okFrom s n i) := by
  intro n
  induction n with
  | zero =>
    intro k i hk hi
    obtain ⟨k, rfl⟩ : ∃ k', k = k' + 1 := ⟨k - 1, by omega⟩
    rw [spec_NameOk.l0, if_neg (by omega), okFrom]
  | succ n ih =>
    intro k i hk hi
    obtain ⟨k, rfl⟩ : ∃ k', k = k' + 1 := ⟨k - 1, by omega⟩
    have hw : wrap64 ((i : Int) + 1) = ((i + 1 : Nat) : Int) := by rw [wrap64_id (by omega) (by omega)]; omega
    have hr := bt_range s (i : Int)
    have ihn := ih k (i + 1) (by omega) (by omega)
    rw [spec_NameOk.l0, if_pos (by omega), if_pos (by omega), hw, okFrom]
    rw [spec_l1Letter_eq, spec_l1Digit_eq, ihn, okC]
    simp only [Option.bind_some]
    generalize bt s (i : Int) = c
    cases isL c <;> cases isD c <;> by_cases h7 : c = 45 <;> by_cases h8 : c = 95 <;> by_cases h9 : c = 46 <;> by_cases h10 : c = 43 <;> simp [h7, h8, h9, h10]
theorem spec_NameOk_eq (s : ByteArray) (k : Nat) (hk : 63 ≤ k) : spec_NameOk.f k s = some (nameOk s) := by
  obtain ⟨k, rfl⟩ : ∃ k', k = k' + 1 := ⟨k - 1, by omega⟩
  unfold spec_NameOk.f nameOk
  by_cases h1 : s.size < 1
  · rw [if_pos (by omega), spec_NameOk.j0]
    simp; omega
  · rw [if_neg (by omega)]
    by_cases h2 : s.size > 60
    · rw [if_pos (by omega), spec_NameOk.j0]
      simp; omega
    · rw [if_neg (by omega), if_pos (by omega), spec_NameOk.j0]
      have := spec_NameOk_l0 s (by omega) s.size k 0 (by omega) (by omega)
      rw [show ((0 : Nat) : Int) = 0 from rfl] at this
      rw [this]
      by_cases h3 : bt s 0 = 46
      · simp [h3]
      · have h4 : (bt s 0 == 46) = false := by simpa using h3
        simp [h3, h4, show 1 ≤ s.size by omega, show s.size ≤ 60 by omega]
end Go.Proofs.YtikjbfjnbhaljaaGreatDoor.P
end

section
set_option linter.unusedVariables false
set_option linter.unusedSimpArgs false
namespace Go.Proofs.YtikjbfjnbhaljaaGreatDoor.P
open Go.RowKit Go.Proofs.YtikjbfjnbhaljaaGreatDoorW.PrintWords
def pcs : List UInt8 → List UInt8 → List (List UInt8)
  | cur, [] => [cur]
  | cur, c :: r => if c = 47 then cur :: pcs [] r else pcs (cur ++ [c]) r
theorem index_cons (b : UInt8) (l : List UInt8) : Lib.index (b :: l) [47] = if b = 47 then 0 else if Lib.index l [47] = -1 then -1 else Lib.index l [47] + 1 := by
  rw [Lib.index]
  by_cases hb : b = 47
  · subst hb; simp [List.isPrefixOf]
  · have : ((47 : UInt8) == b) = false := by simpa using fun e => hb e.symm
    simp [List.isPrefixOf, this, hb]
theorem pcs_miss : ∀ (l cur : List UInt8), Lib.index l [47] = -1 → pcs cur l = [cur ++ l]
  | [], cur, _ => by simp [pcs]
  | b :: l, cur, h => by
    rw [index_cons] at h
    by_cases hb : b = 47
    · rw [if_pos hb] at h; omega
    · rw [if_neg hb] at h
      by_cases hi : Lib.index l [47] = -1
      · rw [pcs, if_neg hb, pcs_miss l _ hi]; simp
      · rw [if_neg hi] at h
        have := Lib.index_ge l [47]
        omega
theorem pcs_hit : ∀ (l cur : List UInt8) (i : Nat), Lib.index l [47] = i → pcs cur l = (cur ++ l.take i) :: pcs [] (l.drop (i + 1))
  | [], cur, i, h => by simp [Lib.index] at h
  | b :: l, cur, i, h => by
    rw [index_cons] at h
    by_cases hb : b = 47
    · rw [if_pos hb] at h
      obtain rfl : i = 0 := by omega
      rw [pcs, if_pos hb]
      simp
    · rw [if_neg hb] at h
      by_cases hi : Lib.index l [47] = -1
      · rw [if_pos hi] at h; omega
      · rw [if_neg hi] at h
        have := Lib.index_ge l [47]
        obtain ⟨j, rfl⟩ : ∃ j, i = j + 1 := ⟨i - 1, by omega⟩
        rw [pcs, if_neg hb, pcs_hit l _ j (by omega)]
        simp
theorem splitK_pcs : ∀ (k : Nat) (l : List UInt8), Lib.count l [47] = k → Lib.splitK [47] 0 k l = pcs [] l
  | 0, l, h => by
    have hi : Lib.index l [47] = -1 := by
      rcases Lib.index_spec l [47] with ⟨h1, _⟩ | ⟨i, h1, _⟩
      · exact h1
      · rw [Lib.count_hit (by simp) h1] at h; omega
    rw [pcs_miss l [] hi, Lib.splitK]; rfl
  | k + 1, l, h => by
    rcases Lib.index_spec l [47] with ⟨h1, _⟩ | ⟨i, h1, _⟩
    · rw [Lib.count_miss h1] at h; omega
    · have h2 := Lib.count_hit (s := l) (sub := [47]) (by simp) h1
      rw [Lib.splitK, if_neg (by simp [h1]), pcs_hit l [] i h1, h1]
      simp only [Int.toNat_natCast, Nat.add_zero, List.nil_append]
      rw [splitK_pcs k _ (by simp at h2 ⊢; omega)]
      rfl
def nameOkL (l : List UInt8) : Bool := nameOk ⟨l.toArray⟩
theorem nameOkL_bs (s : ByteArray) : nameOkL (bs s) = nameOk s := by
  unfold nameOkL bs
  simp
def pathOk (s : ByteArray) : Bool := decide ((pcs [] (bs s)).length ≤ 8) && (pcs [] (bs s)).all nameOkL
theorem impl_pathOk_l0 (xs : List ByteArray) (hx : xs.length ≤ 8) : ∀ n k i : Nat, n + 64 ≤ k → i + n = xs.length → impl_pathOk.l0 k xs (xs.length : Int) (i : Int) = some ((xs.drop i).all nameOk) := by
  intro n
  induction n with
  | zero =>
    intro k i hk hi
    obtain ⟨k, rfl⟩ : ∃ k', k = k' + 1 := ⟨k - 1, by omega⟩
    rw [impl_pathOk.l0, if_neg (by omega), List.drop_eq_nil_of_le (by omega)]; rfl
  | succ n ih =>
    intro k i hk hi
    obtain ⟨k, rfl⟩ : ∃ k', k = k' + 1 := ⟨k - 1, by omega⟩
    have hw : wrap64 ((i : Int) + 1) = ((i + 1 : Nat) : Int) := by rw [wrap64_id (by omega) (by omega)]; omega
    have hl : i < xs.length := by omega
    rw [impl_pathOk.l0, if_pos (by omega), if_pos (by omega), if_pos (by omega), hw, impl_NameOk_eq _ _ (by omega), ih k (i + 1) (by omega) (by omega), List.drop_eq_getElem_cons hl]
    have hr : rdOf ByteArray.empty xs (i : Int) = xs[i] := by simp [rdOf, List.getD_eq_getElem?_getD, List.getElem?_eq_getElem hl]
    rw [hr, Option.bind_some, List.all_cons]
    cases nameOk xs[i] <;> simp
theorem impl_pathOk_eq (s : ByteArray) (hs : s.size < 1073741824) (k : Nat) (hk : 80 ≤ k) : impl_pathOk.f k s = some (pathOk s) := by
  unfold impl_pathOk.f strings_Split.f
  have h1 : (⟨#[47]⟩ : ByteArray).size = 1 := rfl
  rw [if_pos (by omega), if_pos (by rw [h1]; omega), Option.bind_some]
  have hm := Lib.splitB_data (⟨#[47]⟩ : ByteArray) 0 (Lib.countB s (⟨#[47]⟩ : ByteArray)) s
  have hk2 : Lib.splitK [47] 0 (Lib.countB s (⟨#[47]⟩ : ByteArray)) s.data.toList = pcs [] (bs s) := splitK_pcs _ _ rfl
  change List.map bs _ = Lib.splitK [47] 0 _ _ at hm
  rw [hk2] at hm
  generalize Lib.splitB (⟨#[47]⟩ : ByteArray) 0 (Lib.countB s (⟨#[47]⟩ : ByteArray)) s = xs at hm ⊢
  unfold pathOk
  rw [← hm]
  have ha : (xs.map bs).all nameOkL = xs.all nameOk := by
    simp only [List.all_map, Function.comp_def, nameOkL_bs]
  rw [ha, List.length_map]
  by_cases h8 : xs.length ≤ 8
  · rw [if_neg (by omega)]
    have := impl_pathOk_l0 xs h8 xs.length k 0 (by omega) (by omega)
    rw [show ((0 : Nat) : Int) = 0 from rfl] at this
    rw [this]
    simp [h8]
  · rw [if_pos (by omega)]
    simp [h8]
theorem spec_l10Names_l0 (s : ByteArray) (hs : s.size < 1073741824) : ∀ (n k fr i : Nat) (out : List ByteArray), 2 * n + 70 ≤ k → i + n = s.size → fr ≤ i → out.length ≤ 8 →
    ∃ o, spec_l10Names.l0 k s out (fr : Int) (i : Int) = some (o, decide (out.length + (pcs (bs (s.extract fr i)) ((bs s).drop i)).length ≤ 8) && (pcs (bs (s.extract fr i)) ((bs s).drop i)).all nameOkL) := by
  intro n
  induction n with
  | zero =>
    intro k fr i out hk hi hf ho
    obtain ⟨k, rfl⟩ : ∃ k', k = k' + 3 := ⟨k - 3, by omega⟩
    have hw : wrap64 ((i : Int) + 1) = ((i + 1 : Nat) : Int) := by rw [wrap64_id (by omega) (by omega)]; omega
    have hd : (bs s).drop i = [] := List.drop_eq_nil_of_le (by rw [bs_length]; omega)
    rw [spec_l10Names.l0, if_pos (by omega), if_pos (by omega), spec_l10Names.j1, if_pos rfl, if_pos (by omega), if_pos (by omega), if_pos (by omega), spec_NameOk_eq _ _ (by omega), hd, pcs, Option.bind_some, hw]
    simp only [Int.toNat_natCast]
    rw [List.all_cons, nameOkL_bs]
    cases hn : nameOk (s.extract fr i) with
    | false => exact ⟨out, by simp⟩
    | true =>
      rw [if_pos rfl]
      by_cases h8 : out.length = 8
      · rw [if_pos (by omega)]
        exact ⟨out, by simp; omega⟩
      · rw [if_neg (by omega), if_pos (by omega)]
        rw [spec_l10Names.l0, if_neg (by omega)]
        exact ⟨out ++ [s.extract fr i], by simp; omega⟩
  | succ n ih =>
    intro k fr i out hk hi hf ho
    obtain ⟨k, rfl⟩ : ∃ k', k = k' + 2 := ⟨k - 2, by omega⟩
    have hw : wrap64 ((i : Int) + 1) = ((i + 1 : Nat) : Int) := by rw [wrap64_id (by omega) (by omega)]; omega
    have hl : i < (bs s).length := by rw [bs_length]; omega
    have hd : (bs s).drop i = (bs s)[i] :: (bs s).drop (i + 1) := List.drop_eq_getElem_cons hl
    have hb := bt_nat s i (by omega)
    rw [spec_l10Names.l0, if_pos (by omega), if_neg (by omega), if_pos (by omega), if_pos (by omega), spec_l10Names.j1, hd, pcs, hw, hb]
    by_cases hc : (bs s)[i] = 47
    · have hc2 : ((((bs s)[i].toNat : Int) == 47)) = true := by rw [hc]; rfl
      rw [hc2, if_pos rfl, if_pos hc, if_pos (by omega), if_pos (by omega), if_pos (by omega), spec_NameOk_eq _ _ (by omega), Option.bind_some]
      simp only [Int.toNat_natCast]
      rw [List.all_cons, nameOkL_bs]
      cases hn : nameOk (s.extract fr i) with
      | false => exact ⟨out, by simp⟩
      | true =>
        rw [if_pos rfl]
        have hp : 1 ≤ (pcs [] ((bs s).drop (i + 1))).length := by
          generalize (bs s).drop (i + 1) = l
          generalize ([] : List UInt8) = c
          induction l generalizing c with
          | nil => simp [pcs]
          | cons b l ih => rw [pcs]; split <;> simp_all
        by_cases h8 : out.length = 8
        · rw [if_pos (by omega)]
          exact ⟨out, by simp; omega⟩
        · rw [if_neg (by omega), if_pos (by omega)]
          obtain ⟨o, h⟩ := ih k (i + 1) (i + 1) (out ++ [s.extract fr i]) (by omega) (by omega) (by omega) (by simp; omega)
          have he : bs (s.extract (i + 1) (i + 1)) = [] := by rw [bs_extract]; simp
          rw [he] at h
          refine ⟨o, ?_⟩
          rw [h]
          simp only [List.length_append, List.length_cons, List.length_nil, Bool.true_and]
          congr 3
          apply decide_eq_decide.2
          omega
    · have hc2 : ((((bs s)[i].toNat : Int) == 47)) = false := by
        rw [beq_eq_false_iff_ne]
        intro h
        exact hc (UInt8.toNat_inj.mp (by show _ = 47; omega))
      rw [hc2, if_neg (by decide), if_neg hc]
      obtain ⟨o, h⟩ := ih k fr (i + 1) out (by omega) (by omega) (by omega) ho
      have he : bs (s.extract fr (i + 1)) = bs (s.extract fr i) ++ [(bs s)[i]] := by
        rw [bs_extract, bs_extract, show i + 1 - fr = (i - fr) + 1 by omega, List.take_add_one]
        congr 1
        rw [List.getElem?_drop, show fr + (i - fr) = i by omega, List.getElem?_eq_getElem hl]
        rfl
      rw [he] at h
      exact ⟨o, h⟩
theorem spec_l10Names_eq (s : ByteArray) (hs : s.size < 1073741824) (k : Nat) (hk : 2 * s.size + 70 ≤ k) : ∃ o, spec_l10Names.f k s = some (o, pathOk s) := by
  obtain ⟨o, h⟩ := spec_l10Names_l0 s hs s.size k 0 0 [] hk (by omega) (by omega) (by simp)
  have he : bs (s.extract 0 0) = [] := by rw [bs_extract]; simp
  rw [he] at h
  refine ⟨o, ?_⟩
  unfold spec_l10Names.f pathOk
  simpa using h
def upOf (s : ByteArray) : ByteArray × Bool := if Lib.lastIndexByte s 47 < 0 then (⟨#[]⟩, false) else (s.extract 0 (Lib.lastIndexByte s 47).toNat, true)
theorem impl_upper_eq (s : ByteArray) (hs : s.size < 1073741824) : impl_upper.f s = some (upOf s) := by
  unfold impl_upper.f strings_LastIndexByte.f upOf
  rw [if_pos (by omega), Option.bind_some]
  rcases Lib.lastIndexByte_spec s 47 with ⟨h, _⟩ | ⟨i, hi, h, _⟩
  · rw [h, if_pos (by omega), if_pos (by omega)]
  · rw [h, if_neg (by omega), if_pos (by omega), if_pos (by omega), if_neg (by omega)]
theorem spec_l10Up_l0 (s : ByteArray) (hs : s.size < 1073741824) : ∀ (n k : Nat), n + 1 ≤ k → n ≤ s.size →
    spec_l10Up.l0 k s ((n : Int) - 1) = some (if Lib.lastIdx s 47 n < 0 then ⟨#[]⟩ else s.extract 0 (Lib.lastIdx s 47 n).toNat) := by
  intro n
  induction n with
  | zero =>
    intro k hk hn
    obtain ⟨k, rfl⟩ : ∃ k', k = k' + 1 := ⟨k - 1, by omega⟩
    rw [spec_l10Up.l0, if_neg (by omega), Lib.lastIdx, if_pos (by omega)]
  | succ n ih =>
    intro k hk hn
    obtain ⟨k, rfl⟩ : ∃ k', k = k' + 1 := ⟨k - 1, by omega⟩
    have e1 : ((n + 1 : Nat) : Int) - 1 = (n : Int) := by omega
    have hw : wrap64 ((n : Int) - 1) = (n : Int) - 1 := wrap64_id (by omega) (by omega)
    have hb : bt s (n : Int) = ((s.data[n]!).toNat : Int) := by
      rw [bt_nat s n (by omega)]
      have h2 : n < s.data.size := by show n < s.size; omega
      rw [getElem!_pos s.data n h2]
      simp [bs]
    rw [e1, spec_l10Up.l0, if_pos (by omega), if_pos (by omega), if_pos (by omega), hw, hb]
    by_cases hc : ((s.data[n]!).toNat : Int) = 47
    · rw [Lib.lastIdx_hit s 47 n hc, if_pos hc, if_pos (by omega), if_neg (by omega)]
    · rw [Lib.lastIdx_miss s 47 n hc, if_neg hc, ih k (by omega) (by omega)]
theorem spec_l10Up_eq (s : ByteArray) (hs : s.size < 1073741824) (k : Nat) (hk : s.size + 1 ≤ k) : spec_l10Up.f k s = some (upOf s).1 := by
  unfold spec_l10Up.f upOf
  rw [wrap64_id (by omega) (by omega), spec_l10Up_l0 s hs s.size k hk (Nat.le_refl _)]
  show some (if Lib.lastIndexByte s 47 < 0 then _ else _) = _
  split <;> rfl
theorem upOf_ok (s : ByteArray) (hp : pathOk s = true) (hu : (upOf s).2 = true) : ∃ i : Nat, 0 < i ∧ i < s.size ∧ (upOf s).1 = s.extract 0 i := by
  unfold upOf at hu ⊢
  rcases Lib.lastIndexByte_spec s 47 with ⟨h, _⟩ | ⟨i, hi, h, hc, _⟩
  · rw [h, if_pos (by omega)] at hu
    cases hu
  · rw [h, if_neg (by omega)]
    refine ⟨i, ?_, hi, by simp⟩
    rcases Nat.eq_zero_or_pos i with h0 | h0
    · subst h0
      exfalso
      have hl : 0 < (bs s).length := by rw [bs_length]; omega
      have hd : bs s = (bs s)[0] :: (bs s).drop 1 := by
        have := List.drop_eq_getElem_cons hl
        simpa using this
      have h47 : (bs s)[0] = 47 := by
        have h2 : 0 < s.data.size := hi
        have h3 : s.data[0]! = (bs s)[0] := by rw [getElem!_pos s.data 0 h2]; simp [bs]
        rw [h3] at hc
        exact UInt8.toNat_inj.mp (by show _ = 47; omega)
      unfold pathOk at hp
      rw [hd, h47, pcs, if_pos rfl] at hp
      simp [nameOkL, nameOk] at hp
      exact absurd hp.2.1.1.1.1 (by decide)
    · exact h0
theorem upOf_no (s : ByteArray) (hu : (upOf s).2 = false) : (upOf s).1 = ⟨#[]⟩ := by
  unfold upOf at hu ⊢
  split
  · rfl
  · rename_i h
    rw [if_neg h] at hu
    cases hu
theorem less_begin : ∀ (l : List UInt8) (i : Nat), i < l.length → Op.bytesLess (l.take i) l = true
  | [], i, h => by simp at h
  | b :: l, 0, _ => by simp [Op.bytesLess]
  | b :: l, i + 1, h => by
    rw [List.take_succ_cons, Op.bytesLess, less_begin l i (by simpa using h)]
    simp
end Go.Proofs.YtikjbfjnbhaljaaGreatDoor.P
end

section
set_option linter.unusedVariables false
set_option linter.unusedSimpArgs false
namespace Go.Proofs.YtikjbfjnbhaljaaGreatDoor.P
open Go.RowKit Go.Proofs.YtikjbfjnbhaljaaGreatDoorW.PrintWords Go.Proofs.YtikjbfjnbhaljaaGreatDoorM
def less (a b : ByteArray) : Bool := Op.bytesLess (bs a) (bs b)
theorem bl_less (a b : ByteArray) : Op.bytesLess a.toList b.toList = less a b := by rw [toList_bs, toList_bs]; rfl
theorem bl_irrefl : ∀ x : List UInt8, Op.bytesLess x x = false
  | [] => by simp [Op.bytesLess]
  | a :: x => by
    rw [Op.bytesLess, bl_irrefl x]
    have : ¬ a < a := fun h => by have := UInt8.lt_iff_toNat_lt.mp h; omega
    simp [this]
theorem bl_trans : ∀ x y z : List UInt8, Op.bytesLess x y = true → Op.bytesLess y z = true → Op.bytesLess x z = true
  | _, [], _, h, _ => by simp [Op.bytesLess] at h
  | _, _ :: _, [], _, h => by simp [Op.bytesLess] at h
  | [], _ :: _, _ :: _, _, _ => by simp [Op.bytesLess]
  | a :: x, b :: y, c :: z, h1, h2 => by
    rw [Op.bytesLess, Bool.or_eq_true, Bool.and_eq_true, decide_eq_true_iff, beq_iff_eq] at h1 h2 ⊢
    rcases h1 with h1 | ⟨rfl, h1⟩
    · rcases h2 with h2 | ⟨rfl, h2⟩
      · exact .inl (UInt8.lt_iff_toNat_lt.mpr (by have := UInt8.lt_iff_toNat_lt.mp h1; have := UInt8.lt_iff_toNat_lt.mp h2; omega))
      · exact .inl h1
    · rcases h2 with h2 | ⟨rfl, h2⟩
      · exact .inl h2
      · exact .inr ⟨rfl, bl_trans x y z h1 h2⟩
theorem less_irrefl (a : ByteArray) : less a a = false := bl_irrefl _
theorem less_trans {a b c : ByteArray} (h1 : less a b = true) (h2 : less b c = true) : less a c = true := bl_trans _ _ _ h1 h2
theorem less_tri {a b : ByteArray} (h1 : less a b = false) (h2 : less b a = false) : a = b := by
  have := bytesLess_turn (bs a) (bs b)
  unfold less at h1 h2
  rw [h1, h2] at this
  simp at this
  exact bs_inj this
theorem less_ne {a b : ByteArray} (h : less a b = true) : a ≠ b := fun e => by subst e; rw [less_irrefl] at h; cases h
theorem less_asymm {a b : ByteArray} (h : less a b = true) : less b a = false := by
  cases h2 : less b a with
  | false => rfl
  | true => rw [← less_irrefl a]; exact (less_trans h h2).symm
def gd (t : List S57) (i : Nat) : S57 := t.getD i z57
theorem rd_gd (t : List S57) (i : Nat) : rd_T57 t (i : Int) = gd t i := by simp [rd_T57, gd]
theorem gd_get (t : List S57) (i : Nat) (h : i < t.length) : gd t i = t[i] := by simp [gd, List.getD_eq_getElem?_getD, List.getElem?_eq_getElem h]
theorem gd_mem (t : List S57) (i : Nat) (h : i < t.length) : gd t i ∈ t := by rw [gd_get t i h]; exact List.getElem_mem h
def entryOk (e : S57) : Bool := pathOk e.f0 && (decide (e.f2.size ≤ 20000) && (if e.f1 = 1 then decide (e.f2.size = 0) && !e.f3 else if e.f1 = 2 then true else if e.f1 = 3 then !decide (e.f2.size = 0) && !e.f3 else false))
def risen (t : List S57) (n : Nat) : Prop := ∀ j, 0 < j → j < n → less (gd t (j - 1)).f0 (gd t j).f0 = true
theorem risen_lt {t : List S57} {n : Nat} (h : risen t n) : ∀ d i, i + d + 1 < n → less (gd t i).f0 (gd t (i + d + 1)).f0 = true
  | 0, i, hi => by have := h (i + 1) (by omega) (by omega); simpa using this
  | d + 1, i, hi => less_trans (risen_lt h d i (by omega)) (by have h2 := h (i + d + 1 + 1) (by omega) (by omega); rw [Nat.add_sub_cancel] at h2; exact h2)
theorem risen_less {t : List S57} {n i j : Nat} (h : risen t n) (hij : i < j) (hj : j < n) : less (gd t i).f0 (gd t j).f0 = true := by
  have := risen_lt h (j - i - 1) i (by omega)
  rwa [show i + (j - i - 1) + 1 = j by omega] at this
theorem risen_inj {t : List S57} {n i j : Nat} (h : risen t n) (hi : i < n) (hj : j < n) (he : (gd t i).f0 = (gd t j).f0) : i = j := by
  rcases Nat.lt_trichotomy i j with hl | hl | hl
  · exact absurd he (less_ne (risen_less h hl hj))
  · exact hl
  · exact absurd he.symm (less_ne (risen_less h hl hi))
theorem spec_l10Find_l0 (t : List S57) (p : ByteArray) (ht : t.length < 1073741824) (hr : risen t t.length) : ∀ (n k lo hi : Nat), n + 2 ≤ k → hi - lo ≤ n → lo ≤ hi → hi ≤ t.length →
    (∀ i, i < lo → less (gd t i).f0 p = true) → (∀ i, hi ≤ i → i < t.length → less (gd t i).f0 p = false) →
    ∃ r, spec_l10Find.l0 k t p (lo : Int) (hi : Int) = some r ∧ ((∃ i : Nat, r = i ∧ i < t.length ∧ (gd t i).f0 = p) ∨ (r = -1 ∧ ∀ i, i < t.length → (gd t i).f0 ≠ p)) := by
  intro n
  induction n with
  | zero =>
    intro k lo hi hk hn hl hh h1 h2
    obtain ⟨k, rfl⟩ : ∃ k', k = k' + 1 := ⟨k - 1, by omega⟩
    obtain rfl : lo = hi := by omega
    rw [spec_l10Find.l0, if_neg (by omega), rd_gd]
    by_cases hlt : lo < t.length
    · rw [if_pos (by omega), if_pos (by omega)]
      by_cases he : (gd t lo).f0 = p
      · rw [if_pos (by rw [he])]
        exact ⟨_, rfl, .inl ⟨lo, rfl, hlt, he⟩⟩
      · rw [if_neg (fun h => he (bs_inj (by rw [← toList_bs, ← toList_bs]; exact h)))]
        refine ⟨_, rfl, .inr ⟨rfl, fun i hi e => ?_⟩⟩
        rcases Nat.lt_trichotomy i lo with hc | hc | hc
        · exact absurd e (less_ne (h1 i hc))
        · subst hc; exact he e
        · have h3 := risen_less hr hc hi
          rw [e] at h3
          rw [h2 lo (Nat.le_refl _) hlt] at h3
          cases h3
    · rw [if_neg (by omega)]
      exact ⟨_, rfl, .inr ⟨rfl, fun i hi e => absurd e (less_ne (h1 i (by omega)))⟩⟩
  | succ n ih =>
    intro k lo hi hk hn hl hh h1 h2
    by_cases hlo : lo = hi
    · exact ih k lo hi (by omega) (by omega) hl hh h1 h2
    obtain ⟨k, rfl⟩ : ∃ k', k = k' + 1 := ⟨k - 1, by omega⟩
    have hm : wrap64 (Int.tdiv (wrap64 ((lo : Int) + (hi : Int))) 2) = (((lo + hi) / 2 : Nat) : Int) := by
      rw [wrap64_id (n := (lo : Int) + (hi : Int)) (by omega) (by omega), Int.tdiv_eq_ediv_of_nonneg (by omega), wrap64_id (by omega) (by omega)]
      omega
    have hw : wrap64 ((((lo + hi) / 2 : Nat) : Int) + 1) = (((lo + hi) / 2 + 1 : Nat) : Int) := by rw [wrap64_id (by omega) (by omega)]; omega
    rw [spec_l10Find.l0, if_pos (by omega), hm, if_pos (by omega), if_pos (by omega), rd_gd, hw, bl_less]
    by_cases hc : less (gd t ((lo + hi) / 2)).f0 p = true
    · rw [if_pos hc]
      refine ih k _ hi (by omega) (by omega) (by omega) hh (fun i hi2 => ?_) h2
      rcases Nat.lt_or_ge i ((lo + hi) / 2) with h3 | h3
      · exact less_trans (risen_less hr h3 (by omega)) hc
      · obtain rfl : i = (lo + hi) / 2 := by omega
        exact hc
    · rw [if_neg hc]
      refine ih k lo _ (by omega) (by omega) (by omega) (by omega) h1 (fun i hi2 hi3 => ?_)
      have hc2 : less (gd t ((lo + hi) / 2)).f0 p = false := by simpa using hc
      rcases Nat.lt_or_ge ((lo + hi) / 2) i with h3 | h3
      · cases h4 : less (gd t i).f0 p with
        | false => rfl
        | true => rw [← hc2]; exact (less_trans (risen_less hr h3 hi3) h4).symm
      · obtain rfl : i = (lo + hi) / 2 := by omega
        exact hc2
theorem spec_l10Find_eq (t : List S57) (p : ByteArray) (ht : t.length < 1073741824) (hr : risen t t.length) (k : Nat) (hk : t.length + 2 ≤ k) :
    ∃ r, spec_l10Find.f k t p = some r ∧ ((∃ i : Nat, r = i ∧ i < t.length ∧ (gd t i).f0 = p) ∨ (r = -1 ∧ ∀ i, i < t.length → (gd t i).f0 ≠ p)) :=
  spec_l10Find_l0 t p ht hr t.length k 0 t.length hk (by omega) (by omega) (by omega) (fun i h => absurd h (Nat.not_lt_zero _)) (fun i h1 h2 => by omega)
def dirAt (t : List S57) (n : Nat) (p : ByteArray) : Prop := ∃ i, i < n ∧ (gd t i).f0 = p ∧ (gd t i).f1 = 1
theorem gd_take (t : List S57) (n i : Nat) (h : i < n) : gd (t.take n) i = gd t i := by
  unfold gd
  rw [List.getD_eq_getElem?_getD, List.getD_eq_getElem?_getD, List.getElem?_take_of_lt h]
theorem spec_l10Dir_eq (t : List S57) (n : Nat) (p : ByteArray) (hn : n ≤ t.length) (ht : t.length < 1073741824) (hr : risen t n) (k : Nat) (hk : t.length + 2 ≤ k) :
    ∃ b, spec_l10Dir.f k (t.take n) p = some b ∧ (b = true ↔ dirAt t n p) := by
  have hl : (t.take n).length = n := by rw [List.length_take]; omega
  have hr2 : risen (t.take n) (t.take n).length := fun j h1 h2 => by
    rw [hl] at h2
    rw [gd_take t n _ (by omega), gd_take t n _ h2]
    exact hr j h1 h2
  obtain ⟨r, hf, hc⟩ := spec_l10Find_eq (t.take n) p (by omega) hr2 k (by omega)
  unfold spec_l10Dir.f
  rw [hf, Option.bind_some]
  rcases hc with ⟨i, rfl, hi, he⟩ | ⟨rfl, hno⟩
  · rw [if_pos (by omega), if_pos (by omega), if_pos (by omega), rd_gd]
    rw [hl] at hi
    rw [gd_take t n i hi] at he ⊢
    refine ⟨_, rfl, ?_⟩
    rw [beq_iff_eq]
    constructor
    · exact fun h => ⟨i, hi, he, h⟩
    · rintro ⟨j, hj, he2, h1⟩
      obtain rfl := risen_inj hr hi hj (he.trans he2.symm)
      exact h1
  · rw [if_neg (by omega)]
    refine ⟨false, rfl, ⟨fun h => (by cases h), ?_⟩⟩
    rintro ⟨j, hj, he2, _⟩
    exact absurd (by rw [gd_take t n j hj]; exact he2) (hno j (by omega))
theorem toList_nil (s : ByteArray) : s.toList = ([] : List UInt8) ↔ s.size = 0 := by
  rw [toList_bs]
  exact bs_nil
theorem spec_l10EntryOk_eq (e : S57) (hs : e.f0.size < 1073741824) (k : Nat) (hk : 2 * e.f0.size + 71 ≤ k) : spec_l10EntryOk.f k e.f0 e.f1 e.f2 e.f3 = some (entryOk e) := by
  obtain ⟨o, h⟩ := spec_l10Names_eq e.f0 hs k (by omega)
  obtain ⟨k, rfl⟩ : ∃ k', k = k' + 1 := ⟨k - 1, by omega⟩
  unfold spec_l10EntryOk.f entryOk
  rw [h, Option.bind_some]
  show (if pathOk e.f0 = true then _ else _) = _
  cases pathOk e.f0 with
  | false => rw [if_neg (by decide), spec_l10EntryOk.j0]; rfl
  | true =>
    rw [if_pos rfl, spec_l10EntryOk.j0]
    simp only [toList_nil]
    by_cases h1 : e.f2.size > 20000
    · rw [if_pos (by simp; omega)]
      simp; omega
    · rw [if_neg (by simp; omega)]
      have h2 : e.f2.size ≤ 20000 := by omega
      by_cases h3 : e.f1 = 1
      · by_cases h4 : e.f2.size = 0 <;> simp [h2, h3, h4]
      · by_cases h5 : e.f1 = 2
        · simp [h2, h3, h5]
        · by_cases h6 : e.f1 = 3
          · by_cases h4 : e.f2.size = 0 <;> simp [h2, h3, h5, h6, h4]
          · simp [h2, h3, h5, h6]
def goodAt (t : List S57) (i : Nat) : Prop :=
  entryOk (gd t i) = true ∧ (0 < i → less (gd t (i - 1)).f0 (gd t i).f0 = true) ∧ ((upOf (gd t i).f0).2 = true → dirAt t i (upOf (gd t i).f0).1)
def treeOk (t : List S57) : Prop := t.length ≤ 500 ∧ ∀ i, i < t.length → goodAt t i
def smallT (t : List S57) : Prop := ∀ i, (gd t i).f0.size ≤ 1048576
theorem entryOk_path {e : S57} (h : entryOk e = true) : pathOk e.f0 = true := by
  unfold entryOk at h
  rw [Bool.and_eq_true] at h
  exact h.1
theorem spec_TreeOk_l0 (t : List S57) (hl : t.length ≤ 500) (hz : smallT t) : ∀ (n k i : Nat), 2 * n + 2100000 ≤ k → i + n = t.length → (∀ j, j < i → goodAt t j) →
    ∃ b, spec_TreeOk.l0 k t (i : Int) = some b ∧ (b = true ↔ ∀ j, i ≤ j → j < t.length → goodAt t j) := by
  intro n
  induction n with
  | zero =>
    intro k i hk hi hg
    obtain ⟨k, rfl⟩ : ∃ k', k = k' + 1 := ⟨k - 1, by omega⟩
    rw [spec_TreeOk.l0, if_neg (by omega)]
    exact ⟨true, rfl, ⟨fun _ j h1 h2 => by omega, fun _ => rfl⟩⟩
  | succ n ih =>
    intro k i hk hi hg
    obtain ⟨k, rfl⟩ : ∃ k', k = k' + 2 := ⟨k - 2, by omega⟩
    have hzi := hz i
    have hw : wrap64 ((i : Int) + 1) = ((i + 1 : Nat) : Int) := by rw [wrap64_id (by omega) (by omega)]; omega
    rw [spec_TreeOk.l0, if_pos (by omega), if_pos (by omega), rd_gd, spec_l10EntryOk_eq _ (by omega) _ (by omega), Option.bind_some]
    have hbad : ¬ goodAt t i → (false = true ↔ ∀ j, i ≤ j → j < t.length → goodAt t j) := fun hb => ⟨fun h => (by cases h), fun h => absurd (h i (Nat.le_refl _) (by omega)) hb⟩
    have hr : risen t i := fun j h1 h2 => (hg j h2).2.1 h1
    -- behind the order
    have hj : entryOk (gd t i) = true → ∀ o : Bool, (0 < i → o = !(less (gd t (i - 1)).f0 (gd t i).f0)) → (i = 0 → o = false) →
        ∃ b, spec_TreeOk.j1 (k + 1) t (i : Int) o = some b ∧ (b = true ↔ ∀ j, i ≤ j → j < t.length → goodAt t j) := by
      intro he o ho1 ho2
      rw [spec_TreeOk.j1]
      cases o with
      | true =>
        rw [if_pos rfl]
        refine ⟨false, rfl, hbad fun hb => ?_⟩
        rcases Nat.eq_zero_or_pos i with h0 | h0
        · cases ho2 h0
        · have h1 := ho1 h0
          rw [hb.2.1 h0] at h1
          cases h1
      | false =>
        rw [if_neg (by decide), if_pos (by omega), if_pos (by omega), rd_gd, spec_l10Up_eq _ (by omega) _ (by omega), Option.bind_some, hw]
        have hord : 0 < i → less (gd t (i - 1)).f0 (gd t i).f0 = true := fun h0 => by
          have h1 := ho1 h0
          cases h2 : less (gd t (i - 1)).f0 (gd t i).f0 with
          | true => rfl
          | false => rw [h2] at h1; cases h1
        have hgo : goodAt t i → ∃ b, spec_TreeOk.l0 k t ((i + 1 : Nat) : Int) = some b ∧ (b = true ↔ ∀ j, i ≤ j → j < t.length → goodAt t j) := fun hgi => by
          obtain ⟨b, hb1, hb2⟩ := ih k (i + 1) (by omega) (by omega) (fun j hj => by
            rcases Nat.lt_or_ge j i with h | h
            · exact hg j h
            · obtain rfl : j = i := by omega
              exact hgi)
          refine ⟨b, hb1, hb2.trans ⟨fun h j h1 h2 => ?_, fun h j h1 h2 => h j (by omega) h2⟩⟩
          rcases Nat.lt_or_ge i j with h3 | h3
          · exact h j h3 h2
          · obtain rfl : j = i := by omega
            exact hgi
        cases hu : (upOf (gd t i).f0).2 with
        | false =>
          rw [upOf_no _ hu, if_pos ((toList_nil _).2 rfl)]
          exact hgo ⟨he, hord, fun h => by rw [hu] at h; cases h⟩
        | true =>
          obtain ⟨q, hq0, hq1, hq⟩ := upOf_ok _ (entryOk_path he) hu
          have hqs : (upOf (gd t i).f0).1.size ≠ 0 := by
            rw [hq, ← bs_length, bs_upto, List.length_take, bs_length]
            omega
          obtain ⟨b, hb1, hb2⟩ := spec_l10Dir_eq t i (upOf (gd t i).f0).1 (by omega) (by omega) hr k (by omega)
          rw [if_neg (fun h => hqs ((toList_nil _).1 h)), if_pos (by omega)]
          simp only [Int.toNat_natCast]
          rw [hb1, Option.bind_some]
          cases b with
          | true =>
            rw [if_pos rfl]
            exact hgo ⟨he, hord, fun _ => hb2.1 rfl⟩
          | false =>
            rw [if_neg (by decide)]
            exact ⟨false, rfl, hbad fun hb => by cases hb2.2 (hb.2.2 hu)⟩
    cases he : entryOk (gd t i) with
    | false =>
      rw [if_neg (by decide), spec_TreeOk.j1, if_pos rfl]
      exact ⟨false, rfl, hbad fun hb => by rw [hb.1] at he; cases he⟩
    | true =>
      rw [if_pos rfl]
      by_cases h0 : 0 < i
      · have hw2 : wrap64 ((i : Int) - 1) = ((i - 1 : Nat) : Int) := by rw [wrap64_id (by omega) (by omega)]; omega
        rw [if_pos (by omega), hw2, if_pos (by omega), if_pos (by omega), rd_gd, bl_less]
        exact hj he _ (fun _ => rfl) (fun h => by omega)
      · rw [if_neg (by omega)]
        exact hj he false (fun h => absurd h h0) (fun _ => rfl)
theorem spec_TreeOk_eq (t : List S57) (hz : smallT t) (k : Nat) (hk : 2110000 ≤ k) : ∃ b, spec_TreeOk.f k t = some b ∧ (b = true ↔ treeOk t) := by
  unfold spec_TreeOk.f treeOk
  by_cases h : t.length > 500
  · rw [if_pos (by omega)]
    exact ⟨false, rfl, ⟨fun h => (by cases h), fun h2 => by omega⟩⟩
  · rw [if_neg (by omega)]
    obtain ⟨b, h1, h2⟩ := spec_TreeOk_l0 t (by omega) hz t.length k 0 (by omega) (by omega) (fun j h => absurd h (Nat.not_lt_zero _))
    exact ⟨b, h1, h2.trans ⟨fun h3 => ⟨by omega, fun i hi => h3 i (Nat.zero_le _) hi⟩, fun h3 j _ hj => h3.2 j hj⟩⟩
end Go.Proofs.YtikjbfjnbhaljaaGreatDoor.P
end

section
set_option linter.unusedVariables false
set_option linter.unusedSimpArgs false
namespace Go.Proofs.YtikjbfjnbhaljaaGreatDoor.P
open Go.RowKit Go.Proofs.YtikjbfjnbhaljaaGreatDoorW.PrintWords Go.Proofs.YtikjbfjnbhaljaaGreatDoorM
theorem mgetD_snoc (m : List (ByteArray × Int)) (a p : ByteArray) : mgetD 0 (m ++ [(a, 1)]) p = if a = p then 1 else mgetD 0 m p := by
  unfold mgetD
  by_cases h : a = p <;> simp [h]
def dm (t : List S57) : Nat → List (ByteArray × Int)
  | 0 => []
  | i + 1 => if (gd t i).f1 = 1 then dm t i ++ [((gd t i).f0, 1)] else dm t i
theorem dm_length (t : List S57) : ∀ n, (dm t n).length ≤ n
  | 0 => by simp [dm]
  | n + 1 => by
    have := dm_length t n
    rw [dm]
    split
    · simp; omega
    · omega
theorem dm_get (t : List S57) (p : ByteArray) : ∀ n, (mgetD 0 (dm t n) p = 0 ↔ ¬ dirAt t n p)
  | 0 => by
    simp only [dm, mgetD]
    refine ⟨fun _ h => ?_, fun _ => by simp⟩
    obtain ⟨i, hi, _⟩ := h
    omega
  | n + 1 => by
    have ih := dm_get t p n
    have hs : dirAt t (n + 1) p ↔ dirAt t n p ∨ ((gd t n).f0 = p ∧ (gd t n).f1 = 1) := by
      constructor
      · rintro ⟨i, hi, h⟩
        rcases Nat.lt_or_ge i n with h1 | h1
        · exact .inl ⟨i, h1, h⟩
        · obtain rfl : i = n := by omega
          exact .inr h
      · rintro (⟨i, hi, h⟩ | h)
        · exact ⟨i, by omega, h⟩
        · exact ⟨n, by omega, h⟩
    rw [dm, hs]
    by_cases h1 : (gd t n).f1 = 1
    · rw [if_pos h1, mgetD_snoc]
      by_cases h2 : (gd t n).f0 = p
      · simp [h1, h2]
      · simp [h1, h2, ih]
    · rw [if_neg h1, ih]
      simp [h1]
theorem impl_TreeOk_l1 (t : List S57) (hl : t.length ≤ 500) (hz : smallT t) : ∀ (n k i : Nat), n + 1 ≤ k → i + n = t.length →
    ∃ b, impl_TreeOk.l1 k (dm t t.length) t (t.length : Int) (i : Int) = some b ∧ (b = true ↔ ∀ j, i ≤ j → j < t.length → (upOf (gd t j).f0).2 = true → dirAt t t.length (upOf (gd t j).f0).1) := by
  intro n
  induction n with
  | zero =>
    intro k i hk hi
    obtain ⟨k, rfl⟩ : ∃ k', k = k' + 1 := ⟨k - 1, by omega⟩
    rw [impl_TreeOk.l1, if_neg (by omega)]
    exact ⟨true, rfl, ⟨fun _ j h1 h2 => by omega, fun _ => rfl⟩⟩
  | succ n ih =>
    intro k i hk hi
    obtain ⟨k, rfl⟩ : ∃ k', k = k' + 1 := ⟨k - 1, by omega⟩
    have hzi := hz i
    have hw : wrap64 ((i : Int) + 1) = ((i + 1 : Nat) : Int) := by rw [wrap64_id (by omega) (by omega)]; omega
    rw [impl_TreeOk.l1, if_pos (by omega), if_pos (by omega), if_pos (by omega), rd_gd, impl_upper_eq _ (by omega), Option.bind_some, hw]
    obtain ⟨b, hb1, hb2⟩ := ih k (i + 1) (by omega) (by omega)
    have hgo : ((upOf (gd t i).f0).2 = true → dirAt t t.length (upOf (gd t i).f0).1) → ∃ b, impl_TreeOk.l1 k (dm t t.length) t (t.length : Int) ((i + 1 : Nat) : Int) = some b ∧ (b = true ↔ ∀ j, i ≤ j → j < t.length → (upOf (gd t j).f0).2 = true → dirAt t t.length (upOf (gd t j).f0).1) := fun hg => by
      refine ⟨b, hb1, hb2.trans ⟨fun h j h1 h2 => ?_, fun h j h1 h2 => h j (by omega) h2⟩⟩
      rcases Nat.lt_or_ge i j with h3 | h3
      · exact h j h3 h2
      · obtain rfl : j = i := by omega
        exact hg
    cases hu : (upOf (gd t i).f0).2 with
    | false => rw [if_neg (by decide)]; exact hgo (fun h => by rw [hu] at h; cases h)
    | true =>
      have hus : (upOf (gd t i).f0).1.size ≤ 1048576 := by
        unfold upOf
        split
        · decide
        · show ((gd t i).f0.extract 0 _).size ≤ _
          rw [← bs_length, bs_upto, List.length_take, bs_length]
          omega
      rw [if_pos rfl, if_pos (by omega)]
      by_cases hd : mgetD 0 (dm t t.length) (upOf (gd t i).f0).1 = 0
      · rw [if_pos hd]
        exact ⟨false, rfl, ⟨fun h => (by cases h), fun h => absurd (h i (Nat.le_refl _) (by omega) hu) ((dm_get t _ _).1 hd)⟩⟩
      · rw [if_neg hd]
        refine hgo (fun _ => ?_)
        by_cases hx : dirAt t t.length (upOf (gd t i).f0).1
        · exact hx
        · exact absurd ((dm_get t _ _).2 hx) hd
def firstAt (t : List S57) (i : Nat) : Prop := entryOk (gd t i) = true ∧ (0 < i → less (gd t (i - 1)).f0 (gd t i).f0 = true)
def upsIn (t : List S57) : Prop := ∀ j, j < t.length → (upOf (gd t j).f0).2 = true → dirAt t t.length (upOf (gd t j).f0).1
theorem impl_TreeOk_l0 (t : List S57) (hl : t.length ≤ 500) (hz : smallT t) : ∀ (n k i : Nat), 2 * n + 700 ≤ k → i + n = t.length →
    ∃ b, impl_TreeOk.l0 k t (dm t i) t (t.length : Int) (i : Int) = some b ∧ (b = true ↔ (∀ j, i ≤ j → j < t.length → firstAt t j) ∧ upsIn t) := by
  intro n
  induction n with
  | zero =>
    intro k i hk hi
    obtain ⟨k, rfl⟩ : ∃ k', k = k' + 1 := ⟨k - 1, by omega⟩
    obtain rfl : i = t.length := by omega
    rw [impl_TreeOk.l0, if_neg (by omega)]
    obtain ⟨b, h1, h2⟩ := impl_TreeOk_l1 t hl hz t.length k 0 (by omega) (by omega)
    exact ⟨b, h1, h2.trans ⟨fun h => ⟨fun j h3 h4 => by omega, fun j hj => h j (Nat.zero_le _) hj⟩, fun h j _ hj => h.2 j hj⟩⟩
  | succ n ih =>
    intro k i hk hi
    obtain ⟨k, rfl⟩ : ∃ k', k = k' + 2 := ⟨k - 2, by omega⟩
    have hzi := hz i
    have hw : wrap64 ((i : Int) + 1) = ((i + 1 : Nat) : Int) := by rw [wrap64_id (by omega) (by omega)]; omega
    have hdl := dm_length t i
    rw [impl_TreeOk.l0, if_pos (by omega), if_pos (by omega), if_pos (by omega), rd_gd, impl_pathOk_eq _ (by omega) _ (by omega), Option.bind_some]
    have hbad : ¬ firstAt t i → (false = true ↔ (∀ j, i ≤ j → j < t.length → firstAt t j) ∧ upsIn t) := fun hb => ⟨fun h => (by cases h), fun h => absurd (h.1 i (Nat.le_refl _) (by omega)) hb⟩
    -- behind the tests
    have hj : ∀ o : Bool, (o = true → ¬ firstAt t i) → (o = false → pathOk (gd t i).f0 = true ∧ ((gd t i).f3 = true → (gd t i).f1 = 2) ∧ (0 < i → less (gd t (i - 1)).f0 (gd t i).f0 = true)) →
        ∃ b, impl_TreeOk.j1 (k + 1) t (dm t i) t (t.length : Int) (i : Int) o (gd t i).f0 (gd t i).f1 (gd t i).f2 (gd t i).f3 = some b ∧ (b = true ↔ (∀ j, i ≤ j → j < t.length → firstAt t j) ∧ upsIn t) := by
      intro o ho1 ho2
      rw [impl_TreeOk.j1, hw]
      cases o with
      | true => rw [if_pos rfl]; exact ⟨false, rfl, hbad (ho1 rfl)⟩
      | false =>
        obtain ⟨hp, hx, hor⟩ := ho2 rfl
        obtain ⟨b, hb1, hb2⟩ := ih k (i + 1) (by omega) (by omega)
        have hgo : entryOk (gd t i) = true → (b = true ↔ (∀ j, i ≤ j → j < t.length → firstAt t j) ∧ upsIn t) := fun he => by
          refine hb2.trans ⟨fun h => ⟨fun j h1 h2 => ?_, h.2⟩, fun h => ⟨fun j h1 h2 => h.1 j (by omega) h2, h.2⟩⟩
          rcases Nat.lt_or_ge i j with h3 | h3
          · exact h.1 j h3 h2
          · obtain rfl : j = i := by omega
            exact ⟨he, hor⟩
        rw [if_neg (by decide)]
        simp only [toList_nil]
        have hno : entryOk (gd t i) = false → ∃ b', (some false : Option Bool) = some b' ∧ (b' = true ↔ (∀ j, i ≤ j → j < t.length → firstAt t j) ∧ upsIn t) := fun he => ⟨false, rfl, hbad fun hb => by rw [hb.1] at he; cases he⟩
        by_cases h1 : (gd t i).f1 = 1
        · rw [if_pos h1]
          have hx2 : (gd t i).f3 = false := by
            cases h : (gd t i).f3 with
            | false => rfl
            | true => have := hx h; omega
          by_cases h4 : (gd t i).f2.size = 0
          · rw [if_pos h4, if_pos (by omega), if_pos (by omega)]
            rw [dm, if_pos h1] at hb1
            exact ⟨b, hb1, hgo (by simp [entryOk, hp, h1, h4, hx2])⟩
          · rw [if_neg h4]
            exact hno (by simp [entryOk, hp, h1, h4])
        · rw [if_neg h1]
          rw [dm, if_neg h1] at hb1
          by_cases h2 : (gd t i).f1 = 2
          · rw [if_pos h2]
            by_cases h4 : (gd t i).f2.size > 20000
            · rw [if_pos (by omega)]
              exact hno (by simp [entryOk, hp, show ¬ (gd t i).f2.size ≤ 20000 by omega])
            · rw [if_neg (by omega)]
              exact ⟨b, hb1, hgo (by simp [entryOk, hp, h2, show (gd t i).f2.size ≤ 20000 by omega])⟩
          · rw [if_neg h2]
            have hx2 : (gd t i).f3 = false := by
              cases h : (gd t i).f3 with
              | false => rfl
              | true => exact absurd (hx h) h2
            by_cases h3 : (gd t i).f1 = 3
            · rw [if_pos h3]
              by_cases h4 : (gd t i).f2.size < 1
              · rw [if_pos (by omega)]
                exact hno (by simp [entryOk, hp, h3, show (gd t i).f2.size = 0 by omega])
              · rw [if_neg (by omega)]
                by_cases h5 : (gd t i).f2.size > 20000
                · rw [if_pos (by omega)]
                  exact hno (by simp [entryOk, hp, show ¬ (gd t i).f2.size ≤ 20000 by omega])
                · rw [if_neg (by omega)]
                  exact ⟨b, hb1, hgo (by simp [entryOk, hp, h3, hx2, show (gd t i).f2.size ≤ 20000 by omega, show ¬ (gd t i).f2.size = 0 by omega])⟩
            · rw [if_neg h3]
              exact hno (by simp [entryOk, h1, h2, h3])
    have hex : (gd t i).f3 = true → (gd t i).f1 ≠ 2 → entryOk (gd t i) = false := fun h3 h2 => by simp [entryOk, h3, h2]
    have htail : pathOk (gd t i).f0 = true → (0 < i → less (gd t (i - 1)).f0 (gd t i).f0 = true) →
        ∃ b, (if (gd t i).f3 = true then impl_TreeOk.j1 (k + 1) t (dm t i) t (t.length : Int) (i : Int) ((gd t i).f1 != 2) (gd t i).f0 (gd t i).f1 (gd t i).f2 (gd t i).f3 else impl_TreeOk.j1 (k + 1) t (dm t i) t (t.length : Int) (i : Int) false (gd t i).f0 (gd t i).f1 (gd t i).f2 (gd t i).f3) = some b ∧ (b = true ↔ (∀ j, i ≤ j → j < t.length → firstAt t j) ∧ upsIn t) := fun hp hor => by
      by_cases h3 : (gd t i).f3 = true
      · rw [if_pos h3]
        refine hj _ (fun h hb => ?_) (fun h => ⟨hp, fun _ => by simpa using h, hor⟩)
        have := hex h3 (by simpa using h)
        rw [hb.1] at this
        cases this
      · rw [if_neg h3]
        exact hj _ (fun h => by cases h) (fun _ => ⟨hp, fun h => absurd h h3, hor⟩)
    cases hp : pathOk (gd t i).f0 with
    | false =>
      rw [if_neg (by decide)]
      exact hj _ (fun _ hb => by have := entryOk_path hb.1; rw [hp] at this; cases this) (fun h => by cases h)
    | true =>
      rw [if_pos rfl]
      by_cases h0 : 0 < i
      · have hw2 : wrap64 ((i : Int) - 1) = ((i - 1 : Nat) : Int) := by rw [wrap64_id (by omega) (by omega)]; omega
        rw [if_pos (by omega), hw2, if_pos (by omega), if_pos (by omega), rd_gd, bl_less]
        cases ho : less (gd t (i - 1)).f0 (gd t i).f0 with
        | true => rw [if_pos rfl]; exact htail hp (fun _ => ho)
        | false =>
          rw [if_neg (by decide)]
          exact hj _ (fun _ hb => by have := hb.2 h0; rw [ho] at this; cases this) (fun h => by cases h)
      · rw [if_neg (by omega)]
        exact htail hp (fun h => absurd h h0)
theorem treeOk_iff (t : List S57) : (t.length ≤ 500 ∧ (∀ j, j < t.length → firstAt t j) ∧ upsIn t) ↔ treeOk t := by
  constructor
  · rintro ⟨h0, h1, h2⟩
    have hr : risen t t.length := fun j hj1 hj2 => (h1 j hj2).2 hj1
    refine ⟨h0, fun i hi => ⟨(h1 i hi).1, (h1 i hi).2, fun hu => ?_⟩⟩
    obtain ⟨j, hj, he, hk⟩ := h2 i hi hu
    refine ⟨j, ?_, he, hk⟩
    obtain ⟨q, hq0, hq1, hq⟩ := upOf_ok _ (entryOk_path (h1 i hi).1) hu
    have hlt : less (upOf (gd t i).f0).1 (gd t i).f0 = true := by
      unfold less
      rw [hq, bs_upto]
      exact less_begin _ _ (by rw [bs_length]; exact hq1)
    rcases Nat.lt_trichotomy j i with h | h | h
    · exact h
    · subst h
      rw [← he, less_irrefl] at hlt
      cases hlt
    · have h3 := risen_less hr h hj
      rw [he] at h3
      rw [less_asymm h3] at hlt
      cases hlt
  · rintro ⟨h0, h1⟩
    refine ⟨h0, fun j hj => ⟨(h1 j hj).1, (h1 j hj).2.1⟩, fun j hj hu => ?_⟩
    obtain ⟨q, hq, h⟩ := (h1 j hj).2.2 hu
    exact ⟨q, by omega, h⟩
theorem impl_TreeOk_eq (t : List S57) (hz : smallT t) (k : Nat) (hk : 2000 ≤ k) : ∃ b, impl_TreeOk.f k t = some b ∧ (b = true ↔ treeOk t) := by
  unfold impl_TreeOk.f
  by_cases h : t.length > 500
  · rw [if_pos (by omega)]
    exact ⟨false, rfl, ⟨fun h => (by cases h), fun h2 => by have := h2.1; omega⟩⟩
  · rw [if_neg (by omega)]
    obtain ⟨b, h1, h2⟩ := impl_TreeOk_l0 t (by omega) hz t.length k 0 (by omega) (by omega)
    refine ⟨b, h1, h2.trans (Iff.trans ?_ (treeOk_iff t))⟩
    exact ⟨fun h3 => ⟨by omega, fun j hj => h3.1 j (Nat.zero_le _) hj, h3.2⟩, fun h3 => ⟨fun j _ hj => h3.2.1 j hj, h3.2.2⟩⟩
end Go.Proofs.YtikjbfjnbhaljaaGreatDoor.P
end

section
set_option linter.unusedVariables false
set_option linter.unusedSimpArgs false
namespace Go.Proofs.YtikjbfjnbhaljaaGreatDoor.P
open Go.RowKit Go.Proofs.YtikjbfjnbhaljaaGreatDoorW.PrintWords Go.Proofs.YtikjbfjnbhaljaaGreatDoorW.PrintLast Go.Proofs.YtikjbfjnbhaljaaGreatDoorM
theorem idx_both (c : Int) (h0 : 0 ≤ c) (h1 : c ≤ 255) (k : Nat) (hk : 40 ≤ k) :
    ∃ r : Int, spec_l1Index.f k c = some r ∧ strings_IndexByte.f (⟨#[48, 49, 50, 51, 52, 53, 54, 55, 56, 57, 97, 98, 99, 100, 102, 103, 104, 105, 106, 107, 108, 109, 110, 112, 113, 114, 115, 118, 119, 120, 121, 122]⟩ : ByteArray) c = some r ∧ r ≤ 31 := by
  have key : ∀ c : Fin 256, spec_l1Index.f 40 (c.val : Int) = strings_IndexByte.f (⟨#[48, 49, 50, 51, 52, 53, 54, 55, 56, 57, 97, 98, 99, 100, 102, 103, 104, 105, 106, 107, 108, 109, 110, 112, 113, 114, 115, 118, 119, 120, 121, 122]⟩ : ByteArray) (c.val : Int) ∧ ((strings_IndexByte.f (⟨#[48, 49, 50, 51, 52, 53, 54, 55, 56, 57, 97, 98, 99, 100, 102, 103, 104, 105, 106, 107, 108, 109, 110, 112, 113, 114, 115, 118, 119, 120, 121, 122]⟩ : ByteArray) (c.val : Int)).getD 0) ≤ 31 := by
    decide +kernel
  obtain ⟨n, rfl⟩ := Int.eq_ofNat_of_zero_le h0
  have hk2 := key ⟨n, by omega⟩
  obtain ⟨r, hr⟩ : ∃ r, strings_IndexByte.f (⟨#[48, 49, 50, 51, 52, 53, 54, 55, 56, 57, 97, 98, 99, 100, 102, 103, 104, 105, 106, 107, 108, 109, 110, 112, 113, 114, 115, 118, 119, 120, 121, 122]⟩ : ByteArray) ((n : Nat) : Int) = some r := ⟨_, rfl⟩
  refine ⟨r, at_rounds (fun k => spec_l1Index.mono _ k) hk (hk2.1.trans hr), hr, ?_⟩
  have h2 := hk2.2
  rw [hr] at h2
  exact h2
theorem ReadWord32_l0 (s : ByteArray) (hs : s.size = 13) : ∀ (n k i : Nat) (x y : Int), n + 45 ≤ k → i + n = 13 →
    ∃ x' y' ok, impl_ReadWord32.l0 k s x (s.size : Int) (i : Int) = some (x', ok) ∧ spec_ReadWord32.l0 k s y (i : Int) = some (y', ok) := by
  intro n
  induction n with
  | zero =>
    intro k i x y hk hi
    obtain ⟨k, rfl⟩ : ∃ k', k = k' + 1 := ⟨k - 1, by omega⟩
    rw [impl_ReadWord32.l0, spec_ReadWord32.l0, if_neg (by omega), if_neg (by omega)]
    exact ⟨_, _, _, rfl, rfl⟩
  | succ n ih =>
    intro k i x y hk hi
    obtain ⟨k, rfl⟩ : ∃ k', k = k' + 1 := ⟨k - 1, by omega⟩
    have hw : wrap64 ((i : Int) + 1) = ((i + 1 : Nat) : Int) := by rw [wrap64_id (by omega) (by omega)]; omega
    have hb := bt_range s (i : Int)
    obtain ⟨r, hr1, hr2, _⟩ := idx_both (bt s (i : Int)) hb.1 hb.2 k (by omega)
    rw [impl_ReadWord32.l0, spec_ReadWord32.l0, if_pos (by omega), if_pos (by omega), if_pos (by omega), if_pos (by omega), if_pos (by omega), if_pos (by omega), hr1, hr2, Option.bind_some, Option.bind_some, hw]
    by_cases hneg : r < 0
    · rw [if_pos hneg, if_pos hneg]
      exact ⟨_, _, _, rfl, rfl⟩
    · rw [if_neg hneg, if_neg hneg]
      by_cases h0 : (i : Int) = 0
      · rw [if_pos h0, if_pos h0]
        by_cases h15 : r > 15
        · rw [if_pos h15, if_pos h15]
          exact ⟨_, _, _, rfl, rfl⟩
        · rw [if_neg h15, if_neg h15]
          exact ih k (i + 1) _ _ (by omega) (by omega)
      · rw [if_neg h0, if_neg h0]
        exact ih k (i + 1) _ _ (by omega) (by omega)
theorem ReadWord32_both (s : ByteArray) (k : Nat) (hk : 60 ≤ k) : ∃ x y ok, impl_ReadWord32.f k s = some (x, ok) ∧ spec_ReadWord32.f k s = some (y, ok) := by
  unfold impl_ReadWord32.f spec_ReadWord32.f
  by_cases h : (s.size : Int) = 13
  · rw [if_pos h, if_pos h]
    exact ReadWord32_l0 s (by omega) 13 k 0 0 0 (by omega) (by omega)
  · rw [if_neg h, if_neg h]
    exact ⟨_, _, _, rfl, rfl⟩
theorem AddressOk_both (a : ByteArray) (k : Nat) (hk : 70 ≤ k) : ∃ b, impl_AddressOk.f k a = some b ∧ spec_AddressOk.f k a = some b ∧ (b = true → 15 ≤ a.size) := by
  obtain ⟨k, rfl⟩ : ∃ k', k = k' + 1 := ⟨k - 1, by omega⟩
  unfold impl_AddressOk.f spec_AddressOk.f
  by_cases h14 : a.size < 14
  · rw [if_pos (by omega), if_pos (by omega), spec_AddressOk.j0, if_pos rfl]
    exact ⟨false, rfl, rfl, fun h => by cases h⟩
  by_cases h15 : a.size < 15
  · have he : (a.extract 14 a.size).size = 0 := by rw [← bs_length, bs_extract]; simp [bs_length]; omega
    have hn : nameOk (a.extract 14 a.size) = false := by
      unfold nameOk
      rw [he]; rfl
    refine ⟨false, ?_, ?_, fun h => by cases h⟩
    · rw [if_neg (by omega), if_pos (by omega)]
      by_cases h45 : bt a 13 = 45
      · rw [if_pos h45, if_pos (by omega), impl_NameOk_eq _ _ (by omega), hn, Option.bind_some, if_neg (by decide)]
      · rw [if_neg h45]
    · rw [if_pos (by omega), spec_AddressOk.j0, if_pos rfl]
  have n1 : ¬ ((a.size : Int) < 14) := by omega
  have n2 : (13 : Int) < (a.size : Int) := by omega
  have n3 : ¬ ((a.size : Int) < 15) := by omega
  have n4 : (14 : Int) ≤ (a.size : Int) := by omega
  have n5 : (13 : Int) ≤ (a.size : Int) := by omega
  have n6 : (0 : Int) ≤ 13 := by omega
  obtain ⟨x, y, ok, hx, hy⟩ := ReadWord32_both (a.extract 0 13) k (by omega)
  have hx' := at_rounds (fun k => impl_ReadWord32.mono (a.extract 0 13) k) (Nat.le_succ k) hx
  have hi : impl_NameOk.f (k + 1) (a.extract 14 a.size) = some (nameOk (a.extract 14 a.size)) := impl_NameOk_eq _ _ (by omega)
  have hs : spec_NameOk.f k (a.extract 14 a.size) = some (nameOk (a.extract 14 a.size)) := spec_NameOk_eq _ _ (by omega)
  simp only [if_neg n1, if_pos n2, if_neg n3, if_pos n4, if_pos n5, if_pos n6, spec_AddressOk.j0, hi, hs, hx', hy, Option.bind_some]
  by_cases h45 : bt a 13 = 45
  · cases hn : nameOk (a.extract 14 a.size) <;> cases ok <;> simp [h45] <;> omega
  · simp [h45]
end Go.Proofs.YtikjbfjnbhaljaaGreatDoor.P
end

section
set_option linter.unusedVariables false
set_option linter.unusedSimpArgs false
namespace Go.Proofs.YtikjbfjnbhaljaaGreatDoor.P
open Go.RowKit Go.Proofs.YtikjbfjnbhaljaaGreatDoorW.PrintWords Go.Proofs.YtikjbfjnbhaljaaGreatDoorW.PrintLast Go.Proofs.YtikjbfjnbhaljaaGreatDoorW.PrintMore Go.Proofs.YtikjbfjnbhaljaaGreatDoorM
theorem occ_extract (s p : ByteArray) (i : Nat) : (s.extract i (i + p.size)).toList = p.toList ↔ Lib.occAt (bs s) (bs p) i = true := by
  rw [toList_bs, toList_bs, bs_extract, Nat.add_sub_cancel_left]
  unfold Lib.occAt
  rw [List.isPrefixOf_iff_prefix, List.prefix_iff_eq_take, bs_length]
  exact ⟨fun h => h.symm, fun h => h.symm⟩
theorem contains_at {s sub : List UInt8} {i : Nat} (hi : i ≤ s.length) (h : Lib.occAt s sub i = true) : Lib.contains s sub = true := by
  rcases Lib.index_spec s sub with ⟨_, h2⟩ | ⟨j, h1, _⟩
  · rw [h2 i hi] at h; cases h
  · unfold Lib.contains; rw [h1]; exact decide_eq_true (by omega)
theorem contains_none {s sub : List UInt8} (h0 : sub ≠ []) (h : ∀ j, j + sub.length ≤ s.length → Lib.occAt s sub j = false) : Lib.contains s sub = false := by
  rcases Lib.index_spec s sub with ⟨h1, _⟩ | ⟨j, h1, h2, h3, _⟩
  · unfold Lib.contains; rw [h1]; rfl
  · rcases Lib.occAt_room h3 with hr | hr
    · rw [h j hr] at h3; cases h3
    · exact absurd hr h0
theorem spec_l10Has_l0 (s p : ByteArray) (hs : s.size ≤ 1048576) (hp0 : 1 ≤ p.size) (hp : p.size ≤ 1048576) : ∀ (n k i : Nat), n + 1 ≤ k → i + n = s.size + 1 → (∀ j, j < i → Lib.occAt (bs s) (bs p) j = false) → spec_l10Has.l0 k s p (i : Int) = some (Lib.contains (bs s) (bs p)) := by
  have hne : bs p ≠ [] := fun e => by have := bs_nil.1 e; omega
  have last : ∀ (k i : Nat), 1 ≤ k → s.size < i + p.size → i ≤ s.size + 1 → (∀ j, j < i → Lib.occAt (bs s) (bs p) j = false) → spec_l10Has.l0 k s p (i : Int) = some (Lib.contains (bs s) (bs p)) := by
    intro k i hk h1 h2 hn
    obtain ⟨k, rfl⟩ : ∃ k', k = k' + 1 := ⟨k - 1, by omega⟩
    have hw : wrap64 ((i : Int) + (p.size : Int)) = ((i + p.size : Nat) : Int) := by rw [wrap64_id (by omega) (by omega)]; omega
    rw [spec_l10Has.l0, hw, if_neg (by omega), contains_none hne (fun j hj => hn j (by rw [bs_length, bs_length] at hj; omega))]
  intro n
  induction n with
  | zero => exact fun k i hk hi hn => last k i hk (by omega) (by omega) hn
  | succ n ih =>
    intro k i hk hi hn
    by_cases hr : i + p.size ≤ s.size
    · obtain ⟨k, rfl⟩ : ∃ k', k = k' + 1 := ⟨k - 1, by omega⟩
      have hw : wrap64 ((i : Int) + (p.size : Int)) = ((i + p.size : Nat) : Int) := by rw [wrap64_id (by omega) (by omega)]; omega
      have hw1 : wrap64 ((i : Int) + 1) = ((i + 1 : Nat) : Int) := by rw [wrap64_id (by omega) (by omega)]; omega
      rw [spec_l10Has.l0, hw, if_pos (by omega), if_pos (by omega), if_pos (by omega), Int.toNat_natCast, Int.toNat_natCast]
      by_cases ho : Lib.occAt (bs s) (bs p) i = true
      · rw [if_pos ((occ_extract s p i).2 ho), contains_at (by rw [bs_length]; omega) ho]
      · rw [if_neg (fun e => ho ((occ_extract s p i).1 e)), hw1]
        refine ih k (i + 1) (by omega) (by omega) (fun j hj => ?_)
        by_cases e : j = i
        · rw [e]; exact Bool.eq_false_iff.2 ho
        · exact hn j (by omega)
    · exact last k i (by omega) (by omega) (by omega) hn
theorem spec_l10Has_eq (s p : ByteArray) (hs : s.size ≤ 1048576) (hp0 : 1 ≤ p.size) (hp : p.size ≤ 1048576) (k : Nat) (hk : s.size + 2 ≤ k) : spec_l10Has.f k s p = some (Lib.contains (bs s) (bs p)) :=
  spec_l10Has_l0 s p hs hp0 hp (s.size + 1) k 0 (by omega) (by omega) (fun j hj => absurd hj (Nat.not_lt_zero j))
def addS : List ByteArray → ByteArray → List ByteArray
  | [], s => [s]
  | a :: l, s => if less a s = true then a :: addS l s else if a = s then a :: l else s :: a :: l
theorem rdOf_app (pre suf : List ByteArray) (a z : ByteArray) : rdOf z (pre ++ a :: suf) (pre.length : Int) = a := by simp [rdOf]
theorem addS_length (l : List ByteArray) (s : ByteArray) : (addS l s).length ≤ l.length + 1 := by
  induction l with
  | nil => exact Nat.le_refl _
  | cons a l ih => unfold addS; split <;> (try split) <;> simp <;> omega
theorem toList_inj {a b : ByteArray} : a.toList = b.toList ↔ a = b := ⟨fun h => bs_inj (by rw [← toList_bs, ← toList_bs, h]), fun h => by rw [h]⟩
theorem spec_l3Add_l0 (s : ByteArray) : ∀ (suf pre : List ByteArray) (k : Nat), suf.length + 1 ≤ k → pre.length + suf.length ≤ 1048576 → spec_l3Add.l0 k (pre ++ suf) s (pre.length : Int) = some (pre ++ addS suf s) := by
  intro suf
  induction suf with
  | nil =>
    intro pre k hk hl
    obtain ⟨k, rfl⟩ : ∃ k', k = k' + 1 := ⟨k - 1, by omega⟩
    simp only [List.length_nil] at hl
    rw [spec_l3Add.l0, if_neg (by simp)]
    simp only [Option.bind_some, List.append_nil, List.nil_append, List.length_nil, Int.toNat_natCast, List.take_length, List.drop_length]
    rw [if_pos (by omega), if_pos (by omega), if_pos (by omega), if_pos (by omega), if_pos (by simp; omega)]
    rfl
  | cons a suf ih =>
    intro pre k hk hl
    obtain ⟨k, rfl⟩ : ∃ k', k = k' + 1 := ⟨k - 1, by omega⟩
    simp only [List.length_cons] at hl hk
    have hw1 : wrap64 ((pre.length : Int) + 1) = (((pre ++ [a]).length : Nat) : Int) := by rw [wrap64_id (by omega) (by omega)]; simp
    rw [spec_l3Add.l0, if_pos (by simp; omega), if_pos (by omega), rdOf_app, bl_less, hw1]
    unfold addS
    by_cases h1 : less a s = true
    · rw [if_pos h1, if_pos h1, show pre ++ a :: suf = (pre ++ [a]) ++ suf by simp, ih (pre ++ [a]) k (by omega) (by simp; omega)]
      simp
    · rw [if_neg h1, if_neg h1]
      by_cases h2 : a = s
      · rw [if_pos (toList_inj.2 h2), if_pos h2]
      · rw [if_neg (fun e => h2 (toList_inj.1 e)), if_neg h2]
        simp only [Option.bind_some, List.nil_append, List.length_nil, Int.toNat_natCast, List.take_left, List.drop_left]
        rw [if_pos (by simp; omega), if_pos (by omega), if_pos (by omega), if_pos (by simp; omega)]
        simp
theorem spec_l3Add_eq (l : List ByteArray) (s : ByteArray) (hl : l.length ≤ 1048576) (k : Nat) (hk : l.length + 1 ≤ k) : spec_l3Add.f k l s = some (addS l s) := spec_l3Add_l0 s l [] k hk (by simpa using hl)
theorem mem_addS {l : List ByteArray} {s x : ByteArray} : x ∈ addS l s ↔ x ∈ l ∨ x = s := by
  induction l with
  | nil => simp [addS]
  | cons a l ih =>
    unfold addS
    split
    · rw [List.mem_cons, ih, List.mem_cons, or_assoc]
    · split
      · rename_i _ h; subst h; exact ⟨.inl, fun h => h.elim id fun e => by rw [e]; exact List.mem_cons_self⟩
      · simp only [List.mem_cons]
        exact ⟨fun h => h.elim .inr .inl, fun h => h.elim .inr .inl⟩
theorem addS_sorted {l : List ByteArray} {s : ByteArray} (h : l.Pairwise fun a b => less a b = true) : (addS l s).Pairwise fun a b => less a b = true := by
  induction l with
  | nil => simp [addS]
  | cons a l ih =>
    obtain ⟨h1, h2⟩ := List.pairwise_cons.1 h
    unfold addS
    by_cases c1 : less a s = true
    · rw [if_pos c1]
      refine List.pairwise_cons.2 ⟨fun x hx => ?_, ih h2⟩
      rcases mem_addS.1 hx with hx | hx
      · exact h1 x hx
      · rw [hx]; exact c1
    · rw [if_neg c1]
      by_cases c2 : a = s
      · rw [if_pos c2]; exact h
      · rw [if_neg c2]
        have c3 : less s a = true := by
          cases c : less s a
          · exact absurd (less_tri (Bool.eq_false_iff.2 c1) c) c2
          · rfl
        refine List.pairwise_cons.2 ⟨fun x hx => ?_, h⟩
        rcases List.mem_cons.1 hx with hx | hx
        · rw [hx]; exact c3
        · exact less_trans c3 (h1 x hx)
theorem sorted_ext : ∀ {l m : List ByteArray}, (l.Pairwise fun a b => less a b = true) → (m.Pairwise fun a b => less a b = true) → (∀ x, x ∈ l ↔ x ∈ m) → l = m
  | [], [], _, _, _ => rfl
  | [], b :: m, _, _, h => absurd ((h b).2 List.mem_cons_self) (by simp)
  | a :: l, [], _, _, h => absurd ((h a).1 List.mem_cons_self) (by simp)
  | a :: l, b :: m, hl, hm, h => by
    obtain ⟨l1, l2⟩ := List.pairwise_cons.1 hl
    obtain ⟨m1, m2⟩ := List.pairwise_cons.1 hm
    have hab : a = b := by
      rcases List.mem_cons.1 ((h a).1 List.mem_cons_self) with e | e
      · exact e
      · rcases List.mem_cons.1 ((h b).2 List.mem_cons_self) with e' | e'
        · exact e'.symm
        · have := less_asymm (m1 a e); rw [l1 b e'] at this; cases this
    subst hab
    congr 1
    refine sorted_ext l2 m2 (fun x => ?_)
    constructor
    · intro hx
      rcases List.mem_cons.1 ((h x).1 (List.mem_cons_of_mem _ hx)) with e | e
      · have := l1 x hx; rw [e, less_irrefl] at this; cases this
      · exact e
    · intro hx
      rcases List.mem_cons.1 ((h x).2 (List.mem_cons_of_mem _ hx)) with e | e
      · have := m1 x hx; rw [e, less_irrefl] at this; cases this
      · exact e
theorem fold_addS (l : List ByteArray) : ∀ acc : List ByteArray, (acc.Pairwise fun a b => less a b = true) → ((l.foldl addS acc).Pairwise fun a b => less a b = true) ∧ (∀ x, x ∈ l.foldl addS acc ↔ x ∈ acc ∨ x ∈ l) ∧ (l.foldl addS acc).length ≤ acc.length + l.length := by
  induction l with
  | nil => exact fun acc h => ⟨h, fun x => by simp, Nat.le_refl _⟩
  | cons a l ih =>
    intro acc h
    obtain ⟨h1, h2, h3⟩ := ih _ (addS_sorted (s := a) h)
    refine ⟨h1, fun x => ?_, ?_⟩
    · rw [List.foldl_cons, h2 x, mem_addS, List.mem_cons, or_assoc]
    · rw [List.foldl_cons]
      have := addS_length acc a
      simp only [List.length_cons]; omega
theorem less_lt {a b : ByteArray} (h : a.data.toList < b.data.toList) : less a b = true := by
  unfold less bs
  rw [bytesLess_eq]
  exact decide_eq_true h
theorem skeys_fold (l : List ByteArray) : skeys (l.map fun a => (a, (1 : Int))) = l.foldl addS [] := by
  obtain ⟨h1, h2, _⟩ := fold_addS l [] List.Pairwise.nil
  refine sorted_ext ((pairwise_skeys _).imp less_lt) h1 (fun x => ?_)
  rw [mem_skeys, h2 x]
  constructor
  · rintro ⟨p, hp, rfl⟩
    obtain ⟨a, ha, rfl⟩ := List.mem_map.1 hp
    exact .inr ha
  · rintro (h | h)
    · cases h
    · exact ⟨(x, 1), List.mem_map.2 ⟨x, h, rfl⟩, rfl⟩
end Go.Proofs.YtikjbfjnbhaljaaGreatDoor.P
end

section
set_option linter.unusedVariables false
set_option linter.unusedSimpArgs false
namespace Go.Proofs.YtikjbfjnbhaljaaGreatDoor.P
open Go.RowKit Go.Proofs.YtikjbfjnbhaljaaGreatDoorW.PrintWords Go.Proofs.YtikjbfjnbhaljaaGreatDoorW.PrintLast Go.Proofs.YtikjbfjnbhaljaaGreatDoorW.PrintMore Go.Proofs.YtikjbfjnbhaljaaGreatDoorM
noncomputable def addrOk (a : ByteArray) : Bool := (impl_AddressOk.f 70 a).getD false
theorem addr_eq (a : ByteArray) (k : Nat) (hk : 70 ≤ k) : impl_AddressOk.f k a = some (addrOk a) ∧ spec_AddressOk.f k a = some (addrOk a) ∧ (addrOk a = true → 15 ≤ a.size) := by
  obtain ⟨b, h1, h2, h3⟩ := AddressOk_both a k hk
  obtain ⟨b0, g1, _, _⟩ := AddressOk_both a 70 (Nat.le_refl _)
  have e : impl_AddressOk.f k a = some b0 := at_rounds (impl_AddressOk.mono a) hk g1
  have eb : b0 = b := Option.some.inj (e.symm.trans h1)
  have ea : addrOk a = b := by unfold addrOk; rw [g1]; exact eb
  rw [ea]; exact ⟨h1, h2, h3⟩
def hitFrom (t : List S57) (a : ByteArray) (j : Nat) : Bool := (t.drop j).any fun e => Lib.contains (bs e.f2) (bs (a.extract 0 13))
theorem hit_end (t : List S57) (a : ByteArray) : hitFrom t a t.length = false := by simp [hitFrom]
theorem hit_step (t : List S57) (a : ByteArray) (j : Nat) (h : j < t.length) : hitFrom t a j = (Lib.contains (bs (gd t j).f2) (bs (a.extract 0 13)) || hitFrom t a (j + 1)) := by
  unfold hitFrom
  rw [List.drop_eq_getElem_cons h, List.any_cons, gd_get t j h]
noncomputable def refsOf (t : List S57) (l : List ByteArray) : List ByteArray := l.filter fun a => addrOk a && hitFrom t a 0
theorem refs_step (t : List S57) (l : List ByteArray) (i : Nat) (h : i < l.length) : refsOf t (l.drop i) = if (addrOk l[i] && hitFrom t l[i] 0) = true then l[i] :: refsOf t (l.drop (i + 1)) else refsOf t (l.drop (i + 1)) := by
  unfold refsOf
  rw [List.drop_eq_getElem_cons h, List.filter_cons]
theorem extract_size (a : ByteArray) (h : 13 ≤ a.size) : (a.extract 0 13).size = 13 := by
  rw [← bs_length, bs_upto, List.length_take, bs_length]; omega
theorem rdB_at (l : List ByteArray) (i : Nat) (h : i < l.length) : rdOf ByteArray.empty l (i : Int) = l[i] := by simp [rdOf, List.getD_eq_getElem?_getD, List.getElem?_eq_getElem h]
theorem spec_refs_l1 (t : List S57) (ht : t.length ≤ 1048576) (hz : ∀ i, (gd t i).f2.size ≤ 1048576) (l : List ByteArray) (i : Nat) (hi : i < l.length) (hl : l.length ≤ 1048576) (ha : 13 ≤ l[i].size)
    (acc : List ByteArray) (hacc : acc.length ≤ 1048576) (K : Nat) (hK : 1048600 ≤ K) (R : List ByteArray) : ∀ (n k j : Nat), n + K + 1 ≤ k → j + n = t.length →
    (∀ k', K ≤ k' → spec_l10Refs.l0 k' t l (if hitFrom t l[i] j = true then addS acc l[i] else acc) ((i + 1 : Nat) : Int) = some R) → spec_l10Refs.l1 k t l acc (i : Int) (j : Int) = some R := by
  have Hwi : Aside0 (wrap64 ((i : Int) + 1) = ((i + 1 : Nat) : Int)) := Aside0.mk (by rw [wrap64_id (by omega) (by omega)]; omega)
  intro n
  induction n with
  | zero =>
    intro k j hk hj h
    obtain ⟨k, rfl⟩ : ∃ k', k = k' + 1 := ⟨k - 1, by omega⟩
    obtain rfl : j = t.length := by omega
    rw [spec_l10Refs.l1, if_neg (by omega), Hwi.out]
    have h1 := h k (by omega)
    rw [hit_end, if_neg (by simp)] at h1
    exact h1
  | succ n ih =>
    intro k j hk hj h
    obtain ⟨k, rfl⟩ : ∃ k', k = k' + 1 := ⟨k - 1, by omega⟩
    have Hwj : Aside0 (wrap64 ((j : Int) + 1) = ((j + 1 : Nat) : Int)) := Aside0.mk (by rw [wrap64_id (by omega) (by omega)]; omega)
    have hzj := hz j
    rw [spec_l10Refs.l1, if_pos (by omega), if_pos (by omega), if_pos (by omega), if_pos (by omega), if_pos (by omega), rdB_at l i hi, if_pos (by omega), rd_gd, spec_l10Has_eq _ _ hzj (by rw [extract_size _ ha]; omega) (by rw [extract_size _ ha]; omega) k (by omega), Option.bind_some, Hwi.out, Hwj.out]
    rw [hit_step t _ j (by omega)] at h
    by_cases c : Lib.contains (bs (gd t j).f2) (bs (l[i].extract 0 13)) = true
    · rw [if_pos c, spec_l3Add_eq _ _ hacc k (by omega), Option.bind_some]
      have h1 := h k (by omega)
      rw [c, Bool.true_or, if_pos rfl] at h1
      exact h1
    · rw [if_neg c]
      rw [Bool.eq_false_iff.2 c, Bool.false_or] at h
      exact ih k (j + 1) (by omega) (by omega) h
theorem spec_refs_l0 (t : List S57) (ht : t.length ≤ 1048576) (hz : ∀ i, (gd t i).f2.size ≤ 1048576) (l : List ByteArray) (hl : l.length ≤ 1048576) : ∀ (n k i : Nat) (acc : List ByteArray), n * (t.length + 3) + 1048700 ≤ k → i + n = l.length → acc.length + n ≤ 1048576 →
    spec_l10Refs.l0 k t l acc (i : Int) = some ((refsOf t (l.drop i)).foldl addS acc) := by
  intro n
  induction n with
  | zero =>
    intro k i acc hk hi hacc
    obtain ⟨k, rfl⟩ : ∃ k', k = k' + 1 := ⟨k - 1, by omega⟩
    rw [spec_l10Refs.l0, if_neg (by omega), List.drop_eq_nil_of_le (by omega)]
    rfl
  | succ n ih =>
    intro k i acc hk hi hacc
    obtain ⟨k, rfl⟩ : ∃ k', k = k' + 1 := ⟨k - 1, by omega⟩
    have hil : i < l.length := by omega
    have Hwi : Aside0 (wrap64 ((i : Int) + 1) = ((i + 1 : Nat) : Int)) := Aside0.mk (by rw [wrap64_id (by omega) (by omega)]; omega)
    have hmul : (n + 1) * (t.length + 3) = n * (t.length + 3) + (t.length + 3) := Nat.succ_mul _ _
    obtain ⟨K, hKd⟩ : ∃ K, K = n * (t.length + 3) + 1048700 := ⟨_, rfl⟩
    obtain ⟨_, a2, a3⟩ := addr_eq l[i] k (by omega)
    rw [spec_l10Refs.l0, if_pos (by omega), if_pos (by omega), rdB_at l i hil, a2, Option.bind_some, refs_step t l i hil]
    by_cases c : addrOk l[i] = true
    · rw [if_pos c]
      have hs := a3 c
      refine spec_refs_l1 t ht hz l i hil hl (by omega) acc (by omega) K (by omega) _ t.length k 0 (by omega) (by omega) (fun k' hk' => ?_)
      rw [c, Bool.true_and]
      by_cases c2 : hitFrom t l[i] 0 = true
      · rw [if_pos c2, if_pos c2, List.foldl_cons]
        exact ih k' (i + 1) _ (by omega) (by omega) (by have := addS_length acc l[i]; omega)
      · rw [if_neg c2, if_neg c2]
        exact ih k' (i + 1) _ (by omega) (by omega) (by omega)
    · rw [if_neg c, Hwi.out, Bool.eq_false_iff.2 c, Bool.false_and, if_neg (by simp)]
      exact ih k (i + 1) _ (by omega) (by omega) (by omega)
theorem spec_refs_eq (t : List S57) (ht : t.length ≤ 1048576) (hz : ∀ i, (gd t i).f2.size ≤ 1048576) (l : List ByteArray) (hl : l.length ≤ 1048576) (k : Nat) (hk : l.length * (t.length + 3) + 1048700 ≤ k) :
    spec_l10Refs.f k t l = some ((refsOf t l).foldl addS []) := spec_refs_l0 t ht hz l hl l.length k 0 [] hk (by omega) (by simpa using hl)
theorem contains_eq (s p : ByteArray) (hs : s.size ≤ 1048576) : strings_Contains.f s p = some (Lib.contains (bs s) (bs p)) := by
  unfold strings_Contains.f
  rw [if_pos (by omega)]
  rfl
theorem impl_refs_l1 (t : List S57) (ht : t.length ≤ 1048576) (hz : ∀ i, (gd t i).f2.size ≤ 1048576) (l : List ByteArray) (i : Nat) (hi : i < l.length) (hl : l.length ≤ 1048576) (ha : 13 ≤ l[i].size) (hb : l[i].size ≤ 1048576)
    (m : List (ByteArray × Int)) (hm : m.length ≤ 1048576) (K : Nat) (R : List ByteArray) : ∀ (n k j : Nat), n + K + 1 ≤ k → j + n = t.length →
    (∀ k', K ≤ k' → impl_RefsIn.l0 k' t (if hitFrom t l[i] j = true then m ++ [(l[i], 1)] else m) l (l.length : Int) ((i + 1 : Nat) : Int) = some R) → impl_RefsIn.l1 k t m l[i] l (l.length : Int) (i : Int) t (t.length : Int) (j : Int) = some R := by
  have Hwi : Aside0 (wrap64 ((i : Int) + 1) = ((i + 1 : Nat) : Int)) := Aside0.mk (by rw [wrap64_id (by omega) (by omega)]; omega)
  intro n
  induction n with
  | zero =>
    intro k j hk hj h
    obtain ⟨k, rfl⟩ : ∃ k', k = k' + 1 := ⟨k - 1, by omega⟩
    obtain rfl : j = t.length := by omega
    rw [impl_RefsIn.l1, if_neg (by omega), Hwi.out]
    have h1 := h k (by omega)
    rw [hit_end, if_neg (by simp)] at h1
    exact h1
  | succ n ih =>
    intro k j hk hj h
    obtain ⟨k, rfl⟩ : ∃ k', k = k' + 1 := ⟨k - 1, by omega⟩
    have Hwj : Aside0 (wrap64 ((j : Int) + 1) = ((j + 1 : Nat) : Int)) := Aside0.mk (by rw [wrap64_id (by omega) (by omega)]; omega)
    have hzj := hz j
    rw [impl_RefsIn.l1, if_pos (by omega), if_pos (by omega), if_pos (by omega), if_pos (by omega), if_pos (by omega), rd_gd, contains_eq _ _ hzj, Option.bind_some, Hwi.out, Hwj.out]
    rw [hit_step t _ j (by omega)] at h
    by_cases c : Lib.contains (bs (gd t j).f2) (bs (l[i].extract 0 13)) = true
    · rw [if_pos c, if_pos (by omega), if_pos (by omega)]
      have h1 := h k (by omega)
      rw [c, Bool.true_or, if_pos rfl] at h1
      exact h1
    · rw [if_neg c]
      rw [Bool.eq_false_iff.2 c, Bool.false_or] at h
      exact ih k (j + 1) (by omega) (by omega) h
theorem impl_refs_l0 (t : List S57) (ht : t.length ≤ 1048576) (hz : ∀ i, (gd t i).f2.size ≤ 1048576) (l : List ByteArray) (hl : l.length ≤ 1048576) (hb : ∀ a ∈ l, a.size ≤ 1048576) : ∀ (n k i : Nat) (m : List (ByteArray × Int)), n * (t.length + 3) + 1048700 ≤ k → i + n = l.length → m.length + n ≤ 1048576 →
    impl_RefsIn.l0 k t m l (l.length : Int) (i : Int) = some (skeys (m ++ (refsOf t (l.drop i)).map fun a => (a, (1 : Int)))) := by
  intro n
  induction n with
  | zero =>
    intro k i m hk hi hm
    obtain ⟨k, rfl⟩ : ∃ k', k = k' + 1 := ⟨k - 1, by omega⟩
    rw [impl_RefsIn.l0, if_neg (by omega), List.drop_eq_nil_of_le (by omega)]
    unfold impl_sorted.f
    rw [if_pos (by omega), Option.bind_some]
    simp [refsOf]
  | succ n ih =>
    intro k i m hk hi hm
    obtain ⟨k, rfl⟩ : ∃ k', k = k' + 1 := ⟨k - 1, by omega⟩
    have hil : i < l.length := by omega
    have Hwi : Aside0 (wrap64 ((i : Int) + 1) = ((i + 1 : Nat) : Int)) := Aside0.mk (by rw [wrap64_id (by omega) (by omega)]; omega)
    have hmul : (n + 1) * (t.length + 3) = n * (t.length + 3) + (t.length + 3) := Nat.succ_mul _ _
    obtain ⟨K, hKd⟩ : ∃ K, K = n * (t.length + 3) + 1048700 := ⟨_, rfl⟩
    obtain ⟨a1, _, a3⟩ := addr_eq l[i] k (by omega)
    rw [impl_RefsIn.l0, if_pos (by omega), if_pos (by omega), if_pos (by omega), rdB_at l i hil, a1, Option.bind_some, refs_step t l i hil]
    by_cases c : addrOk l[i] = true
    · rw [if_pos c]
      have hs := a3 c
      refine impl_refs_l1 t ht hz l i hil hl (by omega) (hb _ (List.getElem_mem hil)) m (by omega) K _ t.length k 0 (by omega) (by omega) (fun k' hk' => ?_)
      rw [c, Bool.true_and]
      by_cases c2 : hitFrom t l[i] 0 = true
      · rw [if_pos c2, if_pos c2, ih k' (i + 1) _ (by omega) (by omega) (by simp; omega)]
        simp
      · rw [if_neg c2, if_neg c2]
        exact ih k' (i + 1) _ (by omega) (by omega) (by omega)
    · rw [if_neg c, Hwi.out, Bool.eq_false_iff.2 c, Bool.false_and, if_neg (by simp)]
      exact ih k (i + 1) _ (by omega) (by omega) (by omega)
theorem refs_both (t : List S57) (hok : treeOk t) (hz : ∀ i, (gd t i).f0.size ≤ 1048576 ∧ (gd t i).f2.size ≤ 1048576) (l : List ByteArray) (hl : l.length ≤ 2000) (hb : ∀ a ∈ l, a.size ≤ 1048576) (k : Nat) (hk : 4000000 ≤ k) :
    ∃ r, impl_RefsIn.f k t l = some r ∧ spec_l10Refs.f k t l = some r ∧ r.length ≤ 2000 := by
  have ht : t.length ≤ 500 := hok.1
  have hmul : l.length * (t.length + 3) ≤ 2000 * 503 := Nat.mul_le_mul hl (by omega)
  refine ⟨(refsOf t l).foldl addS [], ?_, spec_refs_eq t (by omega) (fun i => (hz i).2) l (by omega) k (by omega), ?_⟩
  · obtain ⟨b, h1, h2⟩ := impl_TreeOk_eq t (fun i => (hz i).1) k (by omega)
    obtain ⟨k, rfl⟩ : ∃ k', k = k' + 1 := ⟨k - 1, by omega⟩
    unfold impl_RefsIn.f
    rw [h1, Option.bind_some, if_pos (h2.2 hok), impl_RefsIn.j0, if_neg (by simp; omega)]
    have h := impl_refs_l0 t (by omega) (fun i => (hz i).2) l (by omega) hb l.length k 0 [] (by omega) (by omega) (by simp; omega)
    rw [List.nil_append, List.drop_zero, skeys_fold] at h
    exact h
  · have h := (fold_addS (refsOf t l) [] List.Pairwise.nil).2.2
    have h2 : (refsOf t l).length ≤ l.length := List.length_filter_le _ _
    simp only [List.length_nil] at h
    omega
end Go.Proofs.YtikjbfjnbhaljaaGreatDoor.P
end

section
set_option linter.unusedVariables false
set_option linter.unusedSimpArgs false
namespace Go.Proofs.YtikjbfjnbhaljaaGreatDoor.P
open Go.RowKit Go.Proofs.YtikjbfjnbhaljaaGreatDoorW.PrintWords Go.Proofs.YtikjbfjnbhaljaaGreatDoorW.PrintLast Go.Proofs.YtikjbfjnbhaljaaGreatDoorM
theorem bits_i64_nat (op : BinOp) (x y : Nat) (hx : x < 9223372036854775808) (hy : y < 9223372036854775808) :
    Go.bits .and .i64 (x : Int) (y : Int) = ((x &&& y : Nat) : Int) ∧ Go.bits .or .i64 (x : Int) (y : Int) = ((x ||| y : Nat) : Int) := by
  have hbx : (BitVec.ofInt 64 (x : Int)).toNat = x := by rw [BitVec.toNat_ofInt]; omega
  have hby : (BitVec.ofInt 64 (y : Int)).toNat = y := by rw [BitVec.toNat_ofInt]; omega
  have hand : x &&& y < 9223372036854775808 := Nat.lt_of_le_of_lt Nat.and_le_left hx
  have hor : x ||| y < 9223372036854775808 := Nat.or_lt_two_pow (n := 63) hx hy
  constructor
  · unfold Go.bits
    show IntKind.i64.wrap (((BitVec.ofInt 64 (x : Int)) &&& (BitVec.ofInt 64 (y : Int))).toNat : Int) = _
    rw [BitVec.toNat_and, hbx, hby, i64_w, wrap64_id (by omega) (by omega)]
  · unfold Go.bits
    show IntKind.i64.wrap (((BitVec.ofInt 64 (x : Int)) ||| (BitVec.ofInt 64 (y : Int))).toNat : Int) = _
    rw [BitVec.toNat_or, hbx, hby, i64_w, wrap64_id (by omega) (by omega)]
theorem varint_byte (v : Nat) (hv : v < 9223372036854775808) : Go.bits .or .i64 (Go.bits .and .i64 (v : Int) 127) 128 = ((v % 128 + 128 : Nat) : Int) := by
  have h1 := (bits_i64_nat .and v 127 hv (by omega)).1
  rw [show ((127 : Nat) : Int) = 127 from rfl] at h1
  have e1 : v &&& 127 = v % 128 := Nat.and_two_pow_sub_one_eq_mod v 7
  rw [h1, e1]
  have h2 := (bits_i64_nat .or (v % 128) 128 (by omega) (by omega)).2
  rw [show ((128 : Nat) : Int) = 128 from rfl] at h2
  have e2 : v % 128 ||| 128 = v % 128 + 128 := Nat.or_two_pow_eq_add_of_lt (n := 7) (by omega)
  rw [h2, e2]
def vi : Nat → Nat → List Int
  | 0, _ => []
  | k + 1, v => if 128 ≤ v then ((v % 128 + 128 : Nat) : Int) :: vi k (v / 128) else [(v : Int)]
theorem vi_length : ∀ k v, (vi k v).length ≤ k
  | 0, _ => by simp [vi]
  | k + 1, v => by
    rw [vi]
    split
    · simpa using vi_length k (v / 128)
    · simp
theorem impl_varint_eq : ∀ (n k v : Nat) (l : List Int), n ≤ k → v < 128 ^ n → 0 < n → n ≤ 9 → l.length + n < 140737488355328 → impl_varint.f k l (v : Int) = some (l ++ vi n v) := by
  intro n
  induction n with
  | zero => intro k v l _ _ h; omega
  | succ n ih =>
    intro k v l hk hv _ hn9 hl
    obtain ⟨k, rfl⟩ : ∃ k', k = k' + 1 := ⟨k - 1, by omega⟩
    have hv63 : v < 9223372036854775808 := Nat.lt_of_lt_of_le hv (Nat.le_trans (Nat.pow_le_pow_right (by decide) hn9) (by decide))
    unfold impl_varint.f
    rw [impl_varint.l0, vi]
    by_cases h : 128 ≤ v
    · rw [if_pos (by omega), if_pos (by omega), if_pos h, varint_byte v hv63]
      have e : ((v % 128 + 128 : Nat) : Int) % 256 = ((v % 128 + 128 : Nat) : Int) := by omega
      have e2 : (v : Int) / 128 = ((v / 128 : Nat) : Int) := by omega
      have hn : 0 < n := by
        rcases Nat.eq_zero_or_pos n with h0 | h0
        · subst h0; simp at hv; omega
        · exact h0
      have := ih k (v / 128) (l ++ [((v % 128 + 128 : Nat) : Int)]) (by omega) (by rw [Nat.pow_succ] at hv; omega) hn (by omega) (by simp; omega)
      unfold impl_varint.f at this
      rw [e, e2, this]
      simp
    · rw [if_neg (by omega), if_pos (by omega), if_neg h]
      have e : (v : Int) % 256 = (v : Int) := by omega
      rw [e]
theorem spec_l10Num_eq : ∀ (n k v : Nat) (l : List Int), n ≤ k → v < 128 ^ n → 0 < n → n ≤ 9 → l.length + n < 140737488355328 → spec_l10Num.f k l (v : Int) = some (l ++ vi n v) := by
  intro n
  induction n with
  | zero => intro k v l _ _ h; omega
  | succ n ih =>
    intro k v l hk hv _ hn9 hl
    obtain ⟨k, rfl⟩ : ∃ k', k = k' + 1 := ⟨k - 1, by omega⟩
    have hv63 : v < 9223372036854775808 := Nat.lt_of_lt_of_le hv (Nat.le_trans (Nat.pow_le_pow_right (by decide) hn9) (by decide))
    unfold spec_l10Num.f
    rw [spec_l10Num.l0, vi]
    by_cases h : 128 ≤ v
    · have e : (wrap64 (Int.tmod (v : Int) 128 + 128)) % 256 = ((v % 128 + 128 : Nat) : Int) := by
        rw [Int.tmod_eq_emod_of_nonneg (by omega), wrap64_id (by omega) (by omega)]
        omega
      have e2 : wrap64 (Int.tdiv (v : Int) 128) = ((v / 128 : Nat) : Int) := by
        rw [Int.tdiv_eq_ediv_of_nonneg (by omega), wrap64_id (by omega) (by omega)]
        omega
      rw [if_pos (by omega), if_pos (by omega), if_pos h, e, e2]
      have hn : 0 < n := by
        rcases Nat.eq_zero_or_pos n with h0 | h0
        · subst h0; simp at hv; omega
        · exact h0
      have := ih k (v / 128) (l ++ [((v % 128 + 128 : Nat) : Int)]) (by omega) (by rw [Nat.pow_succ] at hv; omega) hn (by omega) (by simp; omega)
      unfold spec_l10Num.f at this
      rw [this]
      simp
    · rw [if_neg (by omega), if_pos (by omega), if_neg h]
      have e : (v : Int) % 256 = (v : Int) := by omega
      rw [e]
def tx (s : ByteArray) : List Int := vi 4 s.size ++ bytesOf s
theorem tx_length (s : ByteArray) : (tx s).length ≤ 4 + s.size := by
  have := vi_length 4 s.size
  rw [tx, List.length_append, bytesOf_length]
  omega
theorem spec_l10Text_eq (k : Nat) (l : List Int) (s : ByteArray) (hk : 4 ≤ k) (hs : s.size ≤ 1048576) (hl : l.length ≤ 70368744177664) : spec_l10Text.f k l s = some (l ++ tx s) := by
  unfold spec_l10Text.f
  have hv := vi_length 4 s.size
  have hb := bytesOf_length s
  rw [spec_l10Num_eq 4 k s.size l hk (by omega) (by omega) (by omega) (by omega), Option.bind_some, if_pos (by omega), Option.bind_some, if_pos (by rw [List.length_append]; omega), tx]
  simp
def kb (e : S57) : Int := if e.f3 = true then ((e.f1 % 256) + 16) % 256 else e.f1 % 256
def pk (t : List S57) : Nat → Nat → List Int
  | 0, _ => []
  | n + 1, i => (kb (gd t i) :: (tx (gd t i).f0 ++ tx (gd t i).f2)) ++ pk t n (i + 1)
theorem impl_PackTree_l0 (t : List S57) (hl : t.length ≤ 500) (hz : ∀ i, (gd t i).f0.size ≤ 1048576 ∧ (gd t i).f2.size ≤ 1048576) : ∀ (n k i : Nat) (acc : List Int), n + 5 ≤ k → i + n = t.length → acc.length ≤ 4194304 * (i + 1) →
    impl_PackTree.l0 k acc t (t.length : Int) (i : Int) = some (acc ++ pk t n i) := by
  intro n
  induction n with
  | zero =>
    intro k i acc hk hi ha
    obtain ⟨k, rfl⟩ : ∃ k', k = k' + 1 := ⟨k - 1, by omega⟩
    rw [impl_PackTree.l0, if_neg (by omega), pk, List.append_nil]
  | succ n ih =>
    intro k i acc hk hi ha
    obtain ⟨k, rfl⟩ : ∃ k', k = k' + 1 := ⟨k - 1, by omega⟩
    have hzi := hz i
    have hw : wrap64 ((i : Int) + 1) = ((i + 1 : Nat) : Int) := by rw [wrap64_id (by omega) (by omega)]; omega
    have hv0 := vi_length 4 (gd t i).f0.size
    have hv2 := vi_length 4 (gd t i).f2.size
    have hb0 := bytesOf_length (gd t i).f0
    have hb2 := bytesOf_length (gd t i).f2
    rw [impl_PackTree.l0, if_pos (by omega), if_pos (by omega), if_pos (by omega), rd_gd, hw]
    have go : ∀ b : Int, b = kb (gd t i) → (if acc.length < 140737488355328 then ((impl_varint.f k (acc ++ [b]) ((gd t i).f0.size : Int)).bind fun u1 => (if u1.length + ((gd t i).f0).size < 140737488355328 then ((impl_varint.f k (u1 ++ bytesOf ((gd t i).f0)) (((gd t i).f2).size : Int)).bind fun u2 => (if u2.length + ((gd t i).f2).size < 140737488355328 then (impl_PackTree.l0 k (u2 ++ bytesOf ((gd t i).f2)) t (t.length : Int) ((i + 1 : Nat) : Int)) else (none))) else (none))) else none) = some (acc ++ pk t (n + 1) i) := by
      intro b hb
      rw [if_pos (by omega), impl_varint_eq 4 k _ _ (by omega) (by omega) (by omega) (by omega) (by simp; omega), Option.bind_some, if_pos (by simp; omega),
        impl_varint_eq 4 k _ _ (by omega) (by omega) (by omega) (by omega) (by simp; omega), Option.bind_some, if_pos (by simp; omega), ih k (i + 1) _ (by omega) (by omega) (by simp; omega), pk, hb, tx, tx]
      simp
    by_cases h3 : (gd t i).f3 = true
    · rw [if_pos h3]
      exact go _ (by rw [kb, if_pos h3])
    · rw [if_neg h3]
      exact go _ (by rw [kb, if_neg h3])
theorem spec_PackTree_l0 (t : List S57) (hl : t.length ≤ 500) (hz : ∀ i, (gd t i).f0.size ≤ 1048576 ∧ (gd t i).f2.size ≤ 1048576) : ∀ (n k i : Nat) (acc : List Int), n + 5 ≤ k → i + n = t.length → acc.length ≤ 4194304 * (i + 1) →
    spec_PackTree.l0 k t acc (i : Int) = some (acc ++ pk t n i) := by
  intro n
  induction n with
  | zero =>
    intro k i acc hk hi ha
    obtain ⟨k, rfl⟩ : ∃ k', k = k' + 1 := ⟨k - 1, by omega⟩
    rw [spec_PackTree.l0, if_neg (by omega), pk, List.append_nil]
  | succ n ih =>
    intro k i acc hk hi ha
    obtain ⟨k, rfl⟩ : ∃ k', k = k' + 1 := ⟨k - 1, by omega⟩
    have hzi := hz i
    have hw : wrap64 ((i : Int) + 1) = ((i + 1 : Nat) : Int) := by rw [wrap64_id (by omega) (by omega)]; omega
    have ht0 := tx_length (gd t i).f0
    have ht2 := tx_length (gd t i).f2
    rw [spec_PackTree.l0, if_pos (by omega), if_pos (by omega), rd_gd, hw]
    have go : ∀ b : Int, b = kb (gd t i) → (if acc.length < 140737488355328 then ((spec_l10Text.f k (acc ++ [b]) ((gd t i).f0)).bind fun u1 => ((spec_l10Text.f k u1 ((gd t i).f2)).bind fun u2 => (spec_PackTree.l0 k t u2 ((i + 1 : Nat) : Int)))) else none) = some (acc ++ pk t (n + 1) i) := by
      intro b hb
      rw [if_pos (by omega), spec_l10Text_eq k _ _ (by omega) hzi.1 (by simp; omega), Option.bind_some, spec_l10Text_eq k _ _ (by omega) hzi.2 (by simp; omega), Option.bind_some, ih k (i + 1) _ (by omega) (by omega) (by simp; omega), pk, hb]
      simp
    by_cases h3 : (gd t i).f3 = true
    · rw [if_pos h3]
      refine go _ ?_
      rw [kb, if_pos h3]
      unfold wrap64
      omega
    · rw [if_neg h3]
      exact go _ (by rw [kb, if_neg h3])
def packed (t : List S57) : List Int := ([76, 65, 82, 49] ++ vi 4 t.length) ++ pk t t.length 0
theorem pack_both (t : List S57) (hz : ∀ i, (gd t i).f0.size ≤ 1048576 ∧ (gd t i).f2.size ≤ 1048576) (k : Nat) (hk : 2110000 ≤ k) :
    (treeOk t ∧ impl_PackTree.f k t = some (packed t) ∧ spec_PackTree.f k t = some (packed t)) ∨ (¬ treeOk t ∧ impl_PackTree.f k t = some [] ∧ spec_PackTree.f k t = some []) := by
  obtain ⟨b1, hi1, hi2⟩ := impl_TreeOk_eq t (fun i => (hz i).1) k (by omega)
  obtain ⟨b2, hs1, hs2⟩ := spec_TreeOk_eq t (fun i => (hz i).1) k (by omega)
  unfold impl_PackTree.f spec_PackTree.f
  rw [hi1, hs1, Option.bind_some, Option.bind_some]
  by_cases hok : treeOk t
  · left
    rw [if_pos (hi2.2 hok), if_pos (hs2.2 hok)]
    have hl := hok.1
    have hv := vi_length 4 t.length
    have h1 := impl_PackTree_l0 t hl hz t.length k 0 ([76, 65, 82, 49] ++ vi 4 t.length) (by omega) (by omega) (by simp; omega)
    have h2 := spec_PackTree_l0 t hl hz t.length k 0 ([76, 65, 82, 49] ++ vi 4 t.length) (by omega) (by omega) (by simp; omega)
    rw [show ((0 : Nat) : Int) = 0 from rfl] at h1 h2
    rw [impl_varint_eq 4 k _ _ (by omega) (by omega) (by omega) (by omega) (by simp), spec_l10Num_eq 4 k _ _ (by omega) (by omega) (by omega) (by omega) (by simp), Option.bind_some, Option.bind_some, h1, h2]
    exact ⟨hok, rfl, rfl⟩
  · right
    rw [if_neg (fun h => hok (hi2.1 h)), if_neg (fun h => hok (hs2.1 h))]
    exact ⟨hok, rfl, rfl⟩
end Go.Proofs.YtikjbfjnbhaljaaGreatDoor.P
end

section
set_option linter.unusedVariables false
set_option linter.unusedSimpArgs false
namespace Go.Proofs.YtikjbfjnbhaljaaGreatDoor.P
open Go.RowKit Go.Proofs.YtikjbfjnbhaljaaGreatDoorW.PrintWords Go.Proofs.YtikjbfjnbhaljaaGreatDoorW.PrintLast Go.Proofs.YtikjbfjnbhaljaaGreatDoorM
theorem laws_eqEntryS_l0 (t : List S57) (hl : t.length ≤ 1048576) : ∀ (n k i : Nat), n + 1 ≤ k → i + n = t.length → laws_eqEntryS.l0 k t t (i : Int) = some true := by
  intro n
  induction n with
  | zero =>
    intro k i hk hi
    obtain ⟨k, rfl⟩ : ∃ k', k = k' + 1 := ⟨k - 1, by omega⟩
    rw [laws_eqEntryS.l0, if_neg (by omega)]
  | succ n ih =>
    intro k i hk hi
    obtain ⟨k, rfl⟩ : ∃ k', k = k' + 1 := ⟨k - 1, by omega⟩
    have hw : wrap64 ((i : Int) + 1) = ((i + 1 : Nat) : Int) := by rw [wrap64_id (by omega) (by omega)]; omega
    rw [laws_eqEntryS.l0, if_pos (by omega), if_pos (by omega), if_pos (by omega), hw]
    unfold laws_eqEntry.f
    rw [if_pos rfl, if_pos rfl, if_pos rfl, if_neg (by simp), Option.bind_some, if_pos rfl]
    exact ih k (i + 1) (by omega) (by omega)
theorem laws_eqEntryS_refl (t : List S57) (hl : t.length ≤ 1048576) (k : Nat) (hk : t.length + 1 ≤ k) : laws_eqEntryS.f k t t = some true := by
  unfold laws_eqEntryS.f
  rw [if_pos rfl]
  exact laws_eqEntryS_l0 t hl t.length k 0 hk (by omega)
end Go.Proofs.YtikjbfjnbhaljaaGreatDoor.P
end

section
set_option linter.unusedVariables false
set_option linter.unusedSimpArgs false
namespace Go.Proofs.YtikjbfjnbhaljaaGreatDoor.P
open Go.RowKit Go.Proofs.YtikjbfjnbhaljaaGreatDoorW.PrintWords Go.Proofs.YtikjbfjnbhaljaaGreatDoorW.PrintLast Go.Proofs.YtikjbfjnbhaljaaGreatDoorM
def gl (t : List S70) (i : Nat) : S70 := t.getD i z70
theorem rd_gl (t : List S70) (i : Nat) : rd_T70 t (i : Int) = gl t i := by simp [rd_T70, gl]
def fits (t : List S70) : Prop := t.length ≤ 9223372036854775807 ∧ ∀ i, (gl t i).f0.size ≤ 9223372036854775807 ∧ (gl t i).f2.size ≤ 9223372036854775807
theorem fits_of (t : List S70) (hl : t.length ≤ maxLen) (hg : ∀ a ∈ t, a.f0.size ≤ maxLen ∧ (Lit.int .i64 a.f1).wf = true ∧ a.f2.size ≤ maxLen ∧ True) : fits t := by
  unfold maxLen at hl hg
  refine ⟨by omega, fun i => ?_⟩
  rcases Nat.lt_or_ge i t.length with h | h
  · have hm : gl t i ∈ t := by
      unfold gl
      rw [List.getD_eq_getElem?_getD, List.getElem?_eq_getElem h]
      exact List.getElem_mem h
    have := hg _ hm
    omega
  · have : gl t i = z70 := by
      unfold gl
      rw [List.getD_eq_getElem?_getD, List.getElem?_eq_none h]; rfl
    rw [this]
    decide
def cv (e : S70) : S57 := ⟨e.f0, e.f1, e.f2, e.f3⟩
theorem gd_cv (t : List S70) (i : Nat) : gd (t.map cv) i = cv (gl t i) := by
  unfold gd gl
  rw [List.getD_eq_getElem?_getD, List.getD_eq_getElem?_getD, List.getElem?_map]
  cases t[i]? <;> rfl
theorem gl_beyond (t : List S70) (i : Nat) (h : t.length ≤ i) : gl t i = z70 := by
  unfold gl
  rw [List.getD_eq_getElem?_getD, List.getElem?_eq_none h]; rfl
theorem laws_szEntry_eq (p : ByteArray) (n : Int) (d : ByteArray) (x : Bool) (a : Int) (hp : p.size ≤ 9223372036854775807) (hd : d.size ≤ 9223372036854775807) (ha : 0 ≤ a) (hb : a ≤ 1048576) :
    ∃ r, laws_szEntry.f p n d x a = some r ∧ r ≤ a ∧ (0 ≤ r → p.size ≤ 1048576 ∧ d.size ≤ 1048576) := by
  unfold laws_szEntry.f
  rw [wrap64_id (n := a - (p.size : Int)) (by omega) (by omega)]
  by_cases h : a - (p.size : Int) < 0
  · rw [if_pos h]; exact ⟨_, rfl, by omega, by omega⟩
  · rw [if_neg h, wrap64_id (by omega) (by omega)]
    by_cases h2 : a - (p.size : Int) - (d.size : Int) < 0
    · rw [if_pos h2]; exact ⟨_, rfl, by omega, by omega⟩
    · rw [if_neg h2]; exact ⟨_, rfl, by omega, by omega⟩
theorem laws_toEntryS_l0 (t : List S70) (hl : t.length ≤ 1048576) : ∀ (n k i : Nat), n + 1 ≤ k → i + n = t.length →
    laws_toEntryS.l0 k t ((t.take i).map cv ++ List.replicate n z57) (i : Int) = some (t.map cv) := by
  intro n
  induction n with
  | zero =>
    intro k i hk hi
    obtain ⟨k, rfl⟩ : ∃ k', k = k' + 1 := ⟨k - 1, by omega⟩
    rw [laws_toEntryS.l0, if_neg (by omega), List.take_of_length_le (by omega)]
    simp
  | succ n ih =>
    intro k i hk hi
    obtain ⟨k, rfl⟩ : ∃ k', k = k' + 1 := ⟨k - 1, by omega⟩
    have hw : wrap64 ((i : Int) + 1) = ((i + 1 : Nat) : Int) := by rw [wrap64_id (by omega) (by omega)]; omega
    have hlt : i < t.length := by omega
    have htl : ((t.take i).map cv).length = i := by simp; omega
    rw [laws_toEntryS.l0, if_pos (by omega), if_pos (by omega), rd_gl]
    unfold laws_toEntry.f
    rw [Option.bind_some, if_pos (by simp; omega), hw, Int.toNat_natCast]
    have e : ((t.take i).map cv ++ List.replicate (n + 1) z57).set i ⟨(gl t i).f0, (gl t i).f1, (gl t i).f2, (gl t i).f3⟩ = (t.take (i + 1)).map cv ++ List.replicate n z57 := by
      rw [List.set_append_right _ _ (by omega), htl, Nat.sub_self, List.replicate_succ, List.set_cons_zero, List.take_succ_eq_append_getElem hlt, List.map_append]
      simp only [List.map_cons, List.map_nil, List.append_assoc, List.singleton_append]
      have : gl t i = t[i] := by simp [gl, List.getD_eq_getElem?_getD, List.getElem?_eq_getElem hlt]
      rw [this]; rfl
    show laws_toEntryS.l0 k t (((t.take i).map cv ++ List.replicate (n + 1) z57).set i ⟨(gl t i).f0, (gl t i).f1, (gl t i).f2, (gl t i).f3⟩) _ = _
    rw [e]
    exact ih k (i + 1) (by omega) (by omega)
theorem laws_toEntryS_eq (t : List S70) (hl : t.length ≤ 1048576) (k : Nat) (hk : t.length + 1 ≤ k) : laws_toEntryS.f k t = some (t.map cv) := by
  unfold laws_toEntryS.f
  rw [if_pos (by omega), if_pos (by omega), Int.toNat_natCast]
  have := laws_toEntryS_l0 t hl t.length k 0 hk (by omega)
  simpa using this
end Go.Proofs.YtikjbfjnbhaljaaGreatDoor.P
end

section
set_option linter.unusedVariables false
set_option linter.unusedSimpArgs false
namespace Go.Proofs.YtikjbfjnbhaljaaGreatDoor.P
open Go.RowKit Go.Proofs.YtikjbfjnbhaljaaGreatDoorW.PrintWords Go.Proofs.YtikjbfjnbhaljaaGreatDoorW.PrintLast Go.Proofs.YtikjbfjnbhaljaaGreatDoorW.PrintMore Go.Proofs.YtikjbfjnbhaljaaGreatDoorM
theorem u64_id {n : Int} (h1 : 0 ≤ n) (h2 : n < 18446744073709551616) : IntKind.u64.wrap n = n := by
  have e : IntKind.u64.wrap n = n % 18446744073709551616 := by simp [IntKind.wrap, IntKind.bits, IntKind.signed]
  rw [e]; omega
theorem sum_l1 : ∀ (n k : Nat) (i h : Int), n + 1 ≤ k → 3 - i = n → 0 ≤ i → ∃ r, impl_Sum.l1 k h i = some r ∧ spec_Sum.l1 k h i = some r := by
  intro n
  induction n with
  | zero =>
    intro k i h hk hi h0
    obtain ⟨k, rfl⟩ : ∃ k', k = k' + 1 := ⟨k - 1, by omega⟩
    rw [impl_Sum.l1, spec_Sum.l1, if_neg (by omega), if_neg (by omega)]
    exact ⟨_, rfl, rfl⟩
  | succ n ih =>
    intro k i h hk hi h0
    obtain ⟨k, rfl⟩ : ∃ k', k = k' + 1 := ⟨k - 1, by omega⟩
    rw [impl_Sum.l1, spec_Sum.l1, if_pos (by omega), if_pos (by omega), wrap64_id (by omega) (by omega)]
    exact ih k (i + 1) _ (by omega) (by omega) (by omega)
theorem sum_l0 (l : List Int) (hl : l.length < 1099511627776) : ∀ (n k i : Nat) (h : Int), n + 6 ≤ k → i + n = l.length → ∃ r, impl_Sum.l0 k h l (l.length : Int) (i : Int) = some r ∧ spec_Sum.l0 k l h (i : Int) = some r := by
  intro n
  induction n with
  | zero =>
    intro k i h hk hi
    obtain ⟨k, rfl⟩ : ∃ k', k = k' + 1 := ⟨k - 1, by omega⟩
    rw [impl_Sum.l0, spec_Sum.l0, if_neg (by omega), if_neg (by omega)]
    exact sum_l1 3 k 0 h (by omega) (by omega) (by omega)
  | succ n ih =>
    intro k i h hk hi
    obtain ⟨k, rfl⟩ : ∃ k', k = k' + 1 := ⟨k - 1, by omega⟩
    have hw : wrap64 ((i : Int) + 1) = ((i + 1 : Nat) : Int) := by rw [wrap64_id (by omega) (by omega)]; omega
    rw [impl_Sum.l0, spec_Sum.l0, if_pos (by omega), if_pos (by omega), if_pos (by omega), if_pos (by omega), if_pos (by omega), hw]
    exact ih k (i + 1) _ (by omega) (by omega)
theorem sum_both (l : List Int) (hl : l.length < 1099511627776) (k : Nat) (hk : l.length + 6 ≤ k) : ∃ r, impl_Sum.f k l = some r ∧ spec_Sum.f k l = some r := by
  unfold impl_Sum.f spec_Sum.f
  exact sum_l0 l hl l.length k 0 _ (by omega) (by omega)
def lowFive (x i : Int) : Int := Go.bits .and .u64 (shr .u64 x i) 31
theorem lowFive_range (x i : Int) : 0 ≤ lowFive x i ∧ lowFive x i < 32 := by
  unfold lowFive Go.bits
  show 0 ≤ IntKind.u64.wrap (((BitVec.ofInt 64 (shr .u64 x i)) &&& (BitVec.ofInt 64 31)).toNat : Int) ∧ IntKind.u64.wrap (((BitVec.ofInt 64 (shr .u64 x i)) &&& (BitVec.ofInt 64 31)).toNat : Int) < 32
  have h : ((BitVec.ofInt 64 (shr .u64 x i)) &&& (BitVec.ofInt 64 31)).toNat ≤ 31 := by
    rw [BitVec.toNat_and]
    exact Nat.and_le_right
  rw [u64_id (by omega) (by omega)]
  omega
def digAt (x : Int) (i : Nat) : Int := bt (⟨#[48, 49, 50, 51, 52, 53, 54, 55, 56, 57, 97, 98, 99, 100, 102, 103, 104, 105, 106, 107, 108, 109, 110, 112, 113, 114, 115, 118, 119, 120, 121, 122]⟩ : ByteArray) (lowFive x (5 * (i : Int)))
theorem impl_Word32_step (k : Nat) (x : Int) (ys : List Int) (i : Nat) (h : i < 13) (hl : ys.length = 13) : impl_Word32.l0 (k + 1) x ys 13 (i : Int) = impl_Word32.l0 k x (ys.set (12 - i) (digAt x i)) 13 ((i + 1 : Nat) : Int) := by
  have hw : wrap64 ((i : Int) + 1) = ((i + 1 : Nat) : Int) := by rw [wrap64_id (by omega) (by omega)]; omega
  have h5 : wrap64 (5 * (i : Int)) = 5 * (i : Int) := wrap64_id (by omega) (by omega)
  have h12 : wrap64 (12 - (i : Int)) = ((12 - i : Nat) : Int) := by rw [wrap64_id (by omega) (by omega)]; omega
  have hr := lowFive_range x (5 * (i : Int))
  rw [impl_Word32.l0, if_pos (by omega), hw, h5, h12]
  change (if _ then if 0 ≤ lowFive x (5 * (i : Int)) then if lowFive x (5 * (i : Int)) < 32 then _ else _ else _ else _) = _
  rw [if_pos (by omega), if_pos hr.1, if_pos hr.2, if_pos (by omega), if_pos (by rw [hl]; omega)]
  rfl
theorem spec_Word32_step (k : Nat) (x : Int) (ys : List Int) (i : Nat) (h : i < 13) (hl : ys.length < 100) : spec_Word32.l0 (k + 1) x ys (i : Int) = spec_Word32.l0 k x (ys ++ [digAt x i]) ((i : Int) - 1) := by
  have hw : wrap64 ((i : Int) - 1) = (i : Int) - 1 := wrap64_id (by omega) (by omega)
  have h5 : IntKind.u64.wrap (wrap64 (5 * (i : Int))) = 5 * (i : Int) := by rw [wrap64_id (by omega) (by omega), u64_id (by omega) (by omega)]
  have hr := lowFive_range x (5 * (i : Int))
  rw [spec_Word32.l0, if_pos (by omega), hw, h5]
  change (if _ then if 0 ≤ lowFive x (5 * (i : Int)) then if lowFive x (5 * (i : Int)) < 32 then _ else _ else _ else _) = _
  rw [if_pos (by omega), if_pos hr.1, if_pos hr.2, if_pos (by omega)]
  rfl
theorem spec_Word32_run : ∀ (n k : Nat) (x : Int) (ys : List Int), n ≤ 13 → n + 1 ≤ k → ys.length + n < 100 → spec_Word32.l0 k x ys ((n : Int) - 1) = some (strOfNums (ys ++ ((List.range n).map (digAt x)).reverse)) := by
  intro n
  induction n with
  | zero =>
    intro k x ys _ hk hl
    obtain ⟨k, rfl⟩ : ∃ k', k = k' + 1 := ⟨k - 1, by omega⟩
    rw [spec_Word32.l0, if_neg (by omega)]
    simp
  | succ n ih =>
    intro k x ys hn hk hl
    obtain ⟨k, rfl⟩ : ∃ k', k = k' + 1 := ⟨k - 1, by omega⟩
    have e : ((n + 1 : Nat) : Int) - 1 = (n : Int) := by omega
    rw [e, spec_Word32_step k x ys n (by omega) (by omega), ih k x _ (by omega) (by omega) (by simp; omega), List.range_succ]
    simp
theorem impl_Word32_run : ∀ (n k : Nat) (x : Int) (i : Nat), i + n = 13 → n + 1 ≤ k →
    impl_Word32.l0 k x (List.replicate n 0 ++ ((List.range i).map (digAt x)).reverse) 13 (i : Int) = some (strOfNums ((List.range 13).map (digAt x)).reverse) := by
  intro n
  induction n with
  | zero =>
    intro k x i hi hk
    obtain ⟨k, rfl⟩ : ∃ k', k = k' + 1 := ⟨k - 1, by omega⟩
    obtain rfl : i = 13 := by omega
    rw [impl_Word32.l0, if_neg (by omega)]
    simp
  | succ n ih =>
    intro k x i hi hk
    obtain ⟨k, rfl⟩ : ∃ k', k = k' + 1 := ⟨k - 1, by omega⟩
    rw [impl_Word32_step k x _ i (by omega) (by simp; omega)]
    have e : (List.replicate (n + 1) (0 : Int) ++ ((List.range i).map (digAt x)).reverse).set (12 - i) (digAt x i) = List.replicate n 0 ++ ((List.range (i + 1)).map (digAt x)).reverse := by
      rw [List.range_succ, show 12 - i = n by omega, List.replicate_succ', List.append_assoc, List.set_append_right _ _ (by simp)]
      simp
    rw [e]
    exact ih k x (i + 1) (by omega) (by omega)
theorem word_both (x : Int) (k : Nat) (hk : 20 ≤ k) : ∃ r, impl_Word32.f k x = some r ∧ spec_Word32.f k x = some r := by
  have h1 := spec_Word32_run 13 k x [] (by omega) (by omega) (by simp)
  have h2 := impl_Word32_run 13 k x 0 (by omega) (by omega)
  refine ⟨strOfNums ((List.range 13).map (digAt x)).reverse, ?_, ?_⟩
  · unfold impl_Word32.f
    rw [if_pos (by omega), Option.bind_some, List.length_replicate]
    simpa using h2
  · unfold spec_Word32.f
    simpa using h1
end Go.Proofs.YtikjbfjnbhaljaaGreatDoor.P
end

section
set_option linter.unusedVariables false
set_option linter.unusedSimpArgs false
namespace Go.Proofs.YtikjbfjnbhaljaaGreatDoor.P
open Go.RowKit Go.Proofs.YtikjbfjnbhaljaaGreatDoorW.PrintWords Go.Proofs.YtikjbfjnbhaljaaGreatDoorW.PrintLast Go.Proofs.YtikjbfjnbhaljaaGreatDoorW.PrintMore Go.Proofs.YtikjbfjnbhaljaaGreatDoorM
theorem pk_length (t : List S57) (hz : ∀ i, (gd t i).f0.size ≤ 1048576 ∧ (gd t i).f2.size ≤ 1048576) : ∀ n i, (pk t n i).length ≤ n * 2097161
  | 0, i => by simp [pk]
  | n + 1, i => by
    have h0 := tx_length (gd t i).f0
    have h2 := tx_length (gd t i).f2
    have hzi := hz i
    have ih := pk_length t hz n (i + 1)
    rw [pk]
    simp only [List.length_append, List.length_cons]
    omega
theorem packed_length (t : List S57) (hz : ∀ i, (gd t i).f0.size ≤ 1048576 ∧ (gd t i).f2.size ≤ 1048576) (hl : t.length ≤ 500) : (packed t).length ≤ 1048581000 := by
  have h1 := pk_length t hz t.length 0
  have h2 := vi_length 4 t.length
  rw [packed]
  simp only [List.length_append, List.length_cons, List.length_nil]
  have : t.length * 2097161 ≤ 500 * 2097161 := Nat.mul_le_mul_right _ hl
  omega
theorem treeSum_both (t : List S57) (hz : ∀ i, (gd t i).f0.size ≤ 1048576 ∧ (gd t i).f2.size ≤ 1048576) (k : Nat) (hk : 1100000000 ≤ k) : ∃ r, impl_TreeSum.f k t = some r ∧ spec_TreeSum.f k t = some r := by
  obtain ⟨b1, hi1, hi2⟩ := impl_TreeOk_eq t (fun i => (hz i).1) k (by omega)
  obtain ⟨b2, hs1, hs2⟩ := spec_TreeOk_eq t (fun i => (hz i).1) k (by omega)
  unfold impl_TreeSum.f spec_TreeSum.f
  rw [hi1, hs1, Option.bind_some, Option.bind_some]
  rcases pack_both t hz k (by omega) with ⟨hok, hp1, hp2⟩ | ⟨hok, hp1, hp2⟩
  · have hpl := packed_length t hz hok.1
    obtain ⟨h, hh1, hh2⟩ := sum_both (packed t) (by omega) k (by omega)
    obtain ⟨r, hr1, hr2⟩ := word_both h k (by omega)
    rw [if_pos (hi2.2 hok), if_pos (hs2.2 hok), hp1, hp2, Option.bind_some, Option.bind_some, hh1, hh2, Option.bind_some, Option.bind_some, hr1, hr2]
    exact ⟨r, rfl, rfl⟩
  · rw [if_neg (fun h => hok (hi2.1 h)), if_neg (fun h => hok (hs2.1 h))]
    exact ⟨_, rfl, rfl⟩
end Go.Proofs.YtikjbfjnbhaljaaGreatDoor.P
end

section
set_option linter.unusedVariables false
set_option linter.unusedSimpArgs false
namespace Go.Proofs.YtikjbfjnbhaljaaGreatDoor.P
open Go.RowKit Go.Proofs.YtikjbfjnbhaljaaGreatDoorW.PrintWords Go.Proofs.YtikjbfjnbhaljaaGreatDoorW.PrintLast Go.Proofs.YtikjbfjnbhaljaaGreatDoorW.PrintMore Go.Proofs.YtikjbfjnbhaljaaGreatDoorM
theorem same_l0 (a b : List ByteArray) (hl : a.length ≤ 1048576) (he : a.length = b.length) : ∀ (n k i : Nat), n + 1 ≤ k → i + n = a.length →
    ∃ r, impl_sameTexts.l0 k a b (a.length : Int) (i : Int) = some r ∧ spec_l12SameTexts.l0 k a b (i : Int) = some r := by
  intro n
  induction n with
  | zero =>
    intro k i hk hi
    obtain ⟨k, rfl⟩ : ∃ k', k = k' + 1 := ⟨k - 1, by omega⟩
    rw [impl_sameTexts.l0, spec_l12SameTexts.l0]
    simp only [if_neg (show ¬ (i : Int) < (a.length : Int) by omega)]
    exact ⟨_, rfl, rfl⟩
  | succ n ih =>
    intro k i hk hi
    obtain ⟨k, rfl⟩ : ∃ k', k = k' + 1 := ⟨k - 1, by omega⟩
    have p1 : (i : Int) < (a.length : Int) := by omega
    have p2 : (i : Int) < (b.length : Int) := by omega
    have p3 : 0 ≤ (i : Int) := by omega
    have hw : wrap64 ((i : Int) + 1) = ((i + 1 : Nat) : Int) := by rw [wrap64_id (by omega) (by omega)]; omega
    rw [impl_sameTexts.l0, spec_l12SameTexts.l0]
    simp only [if_pos p1, if_pos p2, if_pos p3, hw]
    by_cases c : (rdOf ByteArray.empty a (i : Int)).toList = (rdOf ByteArray.empty b (i : Int)).toList
    · simp only [if_pos c]
      exact ih k (i + 1) (by omega) (by omega)
    · simp only [if_neg c]
      exact ⟨_, rfl, rfl⟩
theorem same_both (a b : List ByteArray) (hl : a.length ≤ 1048576) (k : Nat) (hk : a.length + 1 ≤ k) : ∃ r, impl_sameTexts.f k a b = some r ∧ spec_l12SameTexts.f k a b = some r := by
  unfold impl_sameTexts.f spec_l12SameTexts.f
  by_cases he : (a.length : Int) = (b.length : Int)
  · simp only [if_pos he]
    exact same_l0 a b hl (by omega) a.length k 0 hk (by omega)
  · simp only [if_neg he]
    exact ⟨_, rfl, rfl⟩
theorem item_both (p s : ByteArray) (refs : List ByteArray) (f : ByteArray) (t : List S57) (l : List ByteArray) (hr : refs.length ≤ 1048576) (hz : ∀ i, (gd t i).f0.size ≤ 1048576 ∧ (gd t i).f2.size ≤ 1048576)
    (hl : l.length ≤ 2000) (hb : ∀ a ∈ l, a.size ≤ 1048576) (k : Nat) (hk : 1100000000 ≤ k) : ∃ r, impl_itemOk.f k p s refs f t l = some r ∧ spec_l12ItemOk.f k p s refs f t l = some r := by
  obtain ⟨a1, a2, _⟩ := addr_eq p k (by omega)
  obtain ⟨g1, g2, _⟩ := addr_eq f k (by omega)
  obtain ⟨b1, hi1, hi2⟩ := impl_TreeOk_eq t (fun i => (hz i).1) k (by omega)
  obtain ⟨b2, hs1, hs2⟩ := spec_TreeOk_eq t (fun i => (hz i).1) k (by omega)
  obtain ⟨v, hv1, hv2⟩ := treeSum_both t hz k hk
  unfold impl_itemOk.f spec_l12ItemOk.f
  rw [a1, a2, Option.bind_some, Option.bind_some]
  by_cases c1 : addrOk p = true
  · simp only [if_pos c1]
    rw [hi1, hs1, Option.bind_some, Option.bind_some]
    by_cases c2 : treeOk t
    · rw [if_pos (hi2.2 c2), if_pos (hs2.2 c2), hv1, hv2, Option.bind_some, Option.bind_some]
      by_cases c3 : s.toList = v.toList
      · simp only [if_pos c3]
        obtain ⟨q, hq1, hq2, hq3⟩ := refs_both t c2 hz l hl hb k (by omega)
        obtain ⟨e, he1, he2⟩ := same_both refs q hr k (by omega)
        simp only [hq1, hq2, Option.bind_some, he1, he2, g1, g2]
        by_cases c4 : f.toList = ([] : List UInt8)
        · simp only [if_pos c4, Option.bind_some]
          cases e
          · exact ⟨_, rfl, rfl⟩
          · exact ⟨_, rfl, rfl⟩
        · simp only [if_neg c4, Option.bind_some]
          cases e <;> cases addrOk f <;> exact ⟨_, rfl, rfl⟩
      · simp only [if_neg c3]
        exact ⟨_, rfl, rfl⟩
    · rw [if_neg (fun h => c2 (hi2.1 h)), if_neg (fun h => c2 (hs2.1 h))]
      exact ⟨_, rfl, rfl⟩
  · simp only [if_neg c1]
    exact ⟨_, rfl, rfl⟩
end Go.Proofs.YtikjbfjnbhaljaaGreatDoor.P
end

section
set_option linter.unusedVariables false
set_option linter.unusedSimpArgs false
namespace Go.Proofs.YtikjbfjnbhaljaaGreatDoor.P
open Go.RowKit Go.Proofs.YtikjbfjnbhaljaaGreatDoorW.PrintWords Go.Proofs.YtikjbfjnbhaljaaGreatDoorW.PrintLast Go.Proofs.YtikjbfjnbhaljaaGreatDoorW.PrintMore Go.Proofs.YtikjbfjnbhaljaaGreatDoorM
def gi (l : List S55) (i : Nat) : S55 := l.getD i z55
theorem rd_gi (l : List S55) (i : Nat) : rd_T55 l (i : Int) = gi l i := by simp [rd_T55, gi]
theorem gi_get (l : List S55) (i : Nat) (h : i < l.length) : gi l i = l[i] := by simp [gi, List.getD_eq_getElem?_getD, List.getElem?_eq_getElem h]
def pathsOf (l : List S55) : List ByteArray := l.map fun x => x.f0
theorem take_paths (l : List S55) (i : Nat) (h : i < l.length) : (pathsOf l).take (i + 1) = (pathsOf l).take i ++ [(gi l i).f0] := by
  have h' : i < (pathsOf l).length := by simp [pathsOf]; exact h
  rw [List.take_succ_eq_append_getElem h', gi_get l i h]
  simp [pathsOf]
theorem spec_paths_l0 (l : List S55) (hl : l.length ≤ 300) : ∀ (n k i : Nat), n + 1 ≤ k → i + n = l.length → spec_l12Paths.l0 k l ((pathsOf l).take i) (i : Int) = some (pathsOf l) := by
  intro n
  induction n with
  | zero =>
    intro k i hk hi
    obtain ⟨k, rfl⟩ : ∃ k', k = k' + 1 := ⟨k - 1, by omega⟩
    rw [spec_l12Paths.l0, if_neg (by omega), List.take_of_length_le (by simp [pathsOf]; omega)]
  | succ n ih =>
    intro k i hk hi
    obtain ⟨k, rfl⟩ : ∃ k', k = k' + 1 := ⟨k - 1, by omega⟩
    have hw : wrap64 ((i : Int) + 1) = ((i + 1 : Nat) : Int) := by rw [wrap64_id (by omega) (by omega)]; omega
    have hlen : ((pathsOf l).take i).length ≤ i := by rw [List.length_take]; omega
    rw [spec_l12Paths.l0, if_pos (by omega), if_pos (by omega), if_pos (by omega), rd_gi, hw, ← take_paths l i (by omega)]
    exact ih k (i + 1) (by omega) (by omega)
theorem impl_paths_l0 (l : List S55) (hl : l.length ≤ 300) : ∀ (n k i : Nat), n + 1 ≤ k → i + n = l.length → impl_storePaths.l0 k ((pathsOf l).take i) l (l.length : Int) (i : Int) = some (pathsOf l) := by
  intro n
  induction n with
  | zero =>
    intro k i hk hi
    obtain ⟨k, rfl⟩ : ∃ k', k = k' + 1 := ⟨k - 1, by omega⟩
    rw [impl_storePaths.l0, if_neg (by omega), List.take_of_length_le (by simp [pathsOf]; omega)]
  | succ n ih =>
    intro k i hk hi
    obtain ⟨k, rfl⟩ : ∃ k', k = k' + 1 := ⟨k - 1, by omega⟩
    have hw : wrap64 ((i : Int) + 1) = ((i + 1 : Nat) : Int) := by rw [wrap64_id (by omega) (by omega)]; omega
    have hlen : ((pathsOf l).take i).length ≤ i := by rw [List.length_take]; omega
    rw [impl_storePaths.l0, if_pos (by omega), if_pos (by omega), if_pos (by omega), if_pos (by omega), rd_gi, hw, ← take_paths l i (by omega)]
    exact ih k (i + 1) (by omega) (by omega)
noncomputable def itemR (l : List S55) (ps : List ByteArray) (i : Nat) : Bool := (impl_itemOk.f 1100000000 (gi l i).f0 (gi l i).f1 (gi l i).f2 (gi l i).f3 (gi l i).f4 ps).getD false
def smallS (l : List S55) : Prop := ∀ i, (gi l i).f0.size ≤ 1048576 ∧ (gi l i).f2.length ≤ 1048576 ∧ ∀ j, (gd (gi l i).f4 j).f0.size ≤ 1048576 ∧ (gd (gi l i).f4 j).f2.size ≤ 1048576
theorem item_eq (l : List S55) (hs : smallS l) (ps : List ByteArray) (hl : ps.length ≤ 2000) (hb : ∀ a ∈ ps, a.size ≤ 1048576) (i k : Nat) (hk : 1100000000 ≤ k) :
    impl_itemOk.f k (gi l i).f0 (gi l i).f1 (gi l i).f2 (gi l i).f3 (gi l i).f4 ps = some (itemR l ps i) ∧ spec_l12ItemOk.f k (gi l i).f0 (gi l i).f1 (gi l i).f2 (gi l i).f3 (gi l i).f4 ps = some (itemR l ps i) := by
  obtain ⟨r, h1, h2⟩ := item_both (gi l i).f0 (gi l i).f1 (gi l i).f2 (gi l i).f3 (gi l i).f4 ps (hs i).2.1 (hs i).2.2 hl hb k hk
  obtain ⟨r0, g1, _⟩ := item_both (gi l i).f0 (gi l i).f1 (gi l i).f2 (gi l i).f3 (gi l i).f4 ps (hs i).2.1 (hs i).2.2 hl hb 1100000000 (Nat.le_refl _)
  have e := at_rounds (impl_itemOk.mono (gi l i).f0 (gi l i).f1 (gi l i).f2 (gi l i).f3 (gi l i).f4 ps) hk g1
  have er : r0 = r := Option.some.inj (e.symm.trans h1)
  have ea : itemR l ps i = r := by unfold itemR; rw [g1]; exact er
  rw [ea]; exact ⟨h1, h2⟩
def riseP (ps : List ByteArray) : Nat → Nat → Bool
  | 0, _ => true
  | n + 1, i => less (ps.getD (i - 1) ByteArray.empty) (ps.getD i ByteArray.empty) && riseP ps n (i + 1)
noncomputable def itemsP (l : List S55) (ps : List ByteArray) : Nat → Nat → Bool
  | 0, _ => true
  | n + 1, i => itemR l ps i && itemsP l ps n (i + 1)
theorem rdB_getD (l : List ByteArray) (i : Nat) : rdOf ByteArray.empty l (i : Int) = l.getD i ByteArray.empty := by simp [rdOf]
theorem rising_l0 (ps : List ByteArray) (hl : ps.length ≤ 2000) : ∀ (n k i : Nat), n + 1 ≤ k → i + n = ps.length → 1 ≤ i → impl_rising_hs.l0 k ps (i : Int) = some (riseP ps n i) := by
  intro n
  induction n with
  | zero =>
    intro k i hk hi h1
    obtain ⟨k, rfl⟩ : ∃ k', k = k' + 1 := ⟨k - 1, by omega⟩
    rw [impl_rising_hs.l0, if_neg (by omega)]
    rfl
  | succ n ih =>
    intro k i hk hi h1
    obtain ⟨k, rfl⟩ : ∃ k', k = k' + 1 := ⟨k - 1, by omega⟩
    have Hw : Aside0 (wrap64 ((i : Int) + 1) = ((i + 1 : Nat) : Int)) := Aside0.mk (by rw [wrap64_id (by omega) (by omega)]; omega)
    have Hv : Aside0 (wrap64 ((i : Int) - 1) = ((i - 1 : Nat) : Int)) := Aside0.mk (by rw [wrap64_id (by omega) (by omega)]; omega)
    rw [impl_rising_hs.l0, Hv.out, Hw.out, if_pos (by omega), if_pos (by omega), if_pos (by omega), if_pos (by omega), rdB_getD, rdB_getD, bl_less, riseP]
    by_cases c : less (ps.getD (i - 1) ByteArray.empty) (ps.getD i ByteArray.empty) = true
    · rw [if_pos c, c, Bool.true_and]
      exact ih k (i + 1) (by omega) (by omega) (by omega)
    · rw [if_neg c, Bool.eq_false_iff.2 c, Bool.false_and]
theorem impl_items_l0 (l : List S55) (hs : smallS l) (ps : List ByteArray) (hl : ps.length ≤ 2000) (hll : l.length ≤ 300) (hb : ∀ a ∈ ps, a.size ≤ 1048576) : ∀ (n k i : Nat), n + 1100000001 ≤ k → i + n = l.length → impl_StoreOk.l0 k ps l (l.length : Int) (i : Int) = some (itemsP l ps n i) := by
  intro n
  induction n with
  | zero =>
    intro k i hk hi
    obtain ⟨k, rfl⟩ : ∃ k', k = k' + 1 := ⟨k - 1, by omega⟩
    rw [impl_StoreOk.l0, if_neg (by omega)]
    rfl
  | succ n ih =>
    intro k i hk hi
    obtain ⟨k, rfl⟩ : ∃ k', k = k' + 1 := ⟨k - 1, by omega⟩
    have Hw : Aside0 (wrap64 ((i : Int) + 1) = ((i + 1 : Nat) : Int)) := Aside0.mk (by rw [wrap64_id (by omega) (by omega)]; omega)
    rw [impl_StoreOk.l0, if_pos (by omega), if_pos (by omega), if_pos (by omega), rd_gi, (item_eq l hs ps hl hb i k (by omega)).1, Option.bind_some, Hw.out, itemsP]
    by_cases c : itemR l ps i = true
    · rw [if_pos c, c, Bool.true_and]
      exact ih k (i + 1) (by omega) (by omega)
    · rw [if_neg c, Bool.eq_false_iff.2 c, Bool.false_and]
theorem spec_items_l0 (l : List S55) (hs : smallS l) (ps : List ByteArray) (hl : ps.length = l.length) (hll : l.length ≤ 300) (hb : ∀ a ∈ ps, a.size ≤ 1048576) : ∀ (n k i : Nat), n + 1100000001 ≤ k → i + n = l.length → 1 ≤ i →
    spec_StoreOk.l0 k l ps (i : Int) = some (riseP ps n i && itemsP l ps n i) := by
  intro n
  induction n with
  | zero =>
    intro k i hk hi h1
    obtain ⟨k, rfl⟩ : ∃ k', k = k' + 1 := ⟨k - 1, by omega⟩
    rw [spec_StoreOk.l0, if_neg (by omega)]
    rfl
  | succ n ih =>
    intro k i hk hi h1
    obtain ⟨k, rfl⟩ : ∃ k', k = k' + 1 := ⟨k - 1, by omega⟩
    have Hw : Aside0 (wrap64 ((i : Int) + 1) = ((i + 1 : Nat) : Int)) := Aside0.mk (by rw [wrap64_id (by omega) (by omega)]; omega)
    have Hv : Aside0 (wrap64 ((i : Int) - 1) = ((i - 1 : Nat) : Int)) := Aside0.mk (by rw [wrap64_id (by omega) (by omega)]; omega)
    have p1 : (i : Int) < (l.length : Int) := by omega
    have p2 : (i : Int) > 0 := by omega
    have p3 : 0 ≤ ((i - 1 : Nat) : Int) := by omega
    have p4 : ((i - 1 : Nat) : Int) < (ps.length : Int) := by omega
    have p5 : 0 ≤ (i : Int) := by omega
    have p6 : (i : Int) < (ps.length : Int) := by omega
    rw [spec_StoreOk.l0, Hv.out, Hw.out, if_pos p1, if_pos p2, if_pos p3, if_pos p4, if_pos p5, if_pos p6, rdB_getD, rdB_getD, bl_less, rd_gi, (item_eq l hs ps (by omega) hb i k (by omega)).2, Option.bind_some, riseP, itemsP]
    by_cases c : less (ps.getD (i - 1) ByteArray.empty) (ps.getD i ByteArray.empty) = true
    · rw [if_pos c, c, Bool.true_and]
      by_cases c2 : itemR l ps i = true
      · rw [if_pos c2, c2, Bool.true_and]
        exact ih k (i + 1) (by omega) (by omega) (by omega)
      · rw [if_neg c2, Bool.eq_false_iff.2 c2, Bool.false_and, Bool.and_false]
    · rw [if_neg c, Bool.eq_false_iff.2 c, Bool.false_and, Bool.false_and]
theorem StoreOk_both (l : List S55) (hs : smallS l) (k : Nat) (hk : 1100001000 ≤ k) : ∃ r, impl_StoreOk.f k l = some r ∧ spec_StoreOk.f k l = some r := by
  unfold impl_StoreOk.f spec_StoreOk.f
  by_cases c : (l.length : Int) > 300
  · simp only [if_pos c]
    exact ⟨_, rfl, rfl⟩
  · simp only [if_neg c]
    have hll : l.length ≤ 300 := by omega
    have hpl : (pathsOf l).length = l.length := by simp [pathsOf]
    have hb : ∀ a ∈ pathsOf l, a.size ≤ 1048576 := by
      intro a ha
      obtain ⟨x, hx, rfl⟩ := List.mem_map.1 ha
      obtain ⟨i, hi, rfl⟩ := List.getElem_of_mem hx
      rw [← gi_get l i hi]
      exact (hs i).1
    unfold impl_storePaths.f spec_l12Paths.f impl_rising_hs.f
    have h1 := impl_paths_l0 l hll l.length k 0 (by omega) (by omega)
    have h2 := spec_paths_l0 l hll l.length k 0 (by omega) (by omega)
    rw [List.take_zero] at h1 h2
    have h1' : impl_storePaths.l0 k [] l (l.length : Int) 0 = some (pathsOf l) := h1
    have h2' : spec_l12Paths.l0 k l [] 0 = some (pathsOf l) := h2
    rw [h1', h2', Option.bind_some, Option.bind_some]
    have h3 := impl_items_l0 l hs (pathsOf l) (by omega) hll hb l.length k 0 (by omega) (by omega)
    have h3' : impl_StoreOk.l0 k (pathsOf l) l (l.length : Int) 0 = some (itemsP l (pathsOf l) l.length 0) := h3
    rcases Nat.eq_zero_or_pos l.length with h0 | h0
    · have h4 : impl_rising_hs.l0 k (pathsOf l) 1 = some true := by
        obtain ⟨k, rfl⟩ : ∃ k', k = k' + 1 := ⟨k - 1, by omega⟩
        rw [impl_rising_hs.l0, if_neg (by omega)]
      have h5 : spec_StoreOk.l0 k l (pathsOf l) 0 = some true := by
        obtain ⟨k, rfl⟩ : ∃ k', k = k' + 1 := ⟨k - 1, by omega⟩
        rw [spec_StoreOk.l0, if_neg (by omega)]
      rw [h4, h5, Option.bind_some, if_pos rfl, h3', h0]
      exact ⟨_, rfl, rfl⟩
    · obtain ⟨n, hn⟩ : ∃ n, l.length = n + 1 := ⟨l.length - 1, by omega⟩
      have h4 : impl_rising_hs.l0 k (pathsOf l) 1 = some (riseP (pathsOf l) n 1) := rising_l0 (pathsOf l) (by omega) n k 1 (by omega) (by omega) (by omega)
      have h5 : spec_StoreOk.l0 k l (pathsOf l) 0 = some (itemR l (pathsOf l) 0 && (riseP (pathsOf l) n 1 && itemsP l (pathsOf l) n 1)) := by
        obtain ⟨k, rfl⟩ : ∃ k', k = k' + 1 := ⟨k - 1, by omega⟩
        have h6 : spec_StoreOk.l0 k l (pathsOf l) 1 = _ := spec_items_l0 l hs (pathsOf l) hpl hll hb n k 1 (by omega) (by omega) (by omega)
        have e0 : rd_T55 l 0 = gi l 0 := rd_gi l 0
        have e1 : wrap64 (0 + 1) = 1 := by rw [wrap64_id (by omega) (by omega)]; rfl
        rw [spec_StoreOk.l0, if_pos (by omega), if_neg (by omega), if_pos (by omega), e0, e1, (item_eq l hs (pathsOf l) (by omega) hb 0 k (by omega)).2, Option.bind_some]
        by_cases c2 : itemR l (pathsOf l) 0 = true
        · rw [if_pos c2, c2, Bool.true_and]; exact h6
        · rw [if_neg c2, Bool.eq_false_iff.2 c2, Bool.false_and]
      rw [h4, h5, Option.bind_some, h3', hn, itemsP]
      cases riseP (pathsOf l) n 1
      · exact ⟨false, rfl, by simp⟩
      · exact ⟨_, rfl, by simp⟩
end Go.Proofs.YtikjbfjnbhaljaaGreatDoor.P
end

section
set_option linter.unusedVariables false
set_option linter.unusedSimpArgs false
namespace Go.Proofs.YtikjbfjnbhaljaaGreatDoor.P
open Go.RowKit Go.Proofs.YtikjbfjnbhaljaaGreatDoorW.PrintWords Go.Proofs.YtikjbfjnbhaljaaGreatDoorW.PrintLast Go.Proofs.YtikjbfjnbhaljaaGreatDoorW.PrintMore Go.Proofs.YtikjbfjnbhaljaaGreatDoorM
theorem szEntryS_l0_le (t : List S70) (hf : fits t) : ∀ (n k i : Nat) (a : Int), n + 1 ≤ k → i + n = t.length → 0 ≤ a → a ≤ 1048576 →
    ∃ r, laws_szEntryS.l0 k t a (i : Int) = some r ∧ r ≤ a ∧ (0 ≤ r → ∀ j, i ≤ j → j < t.length → (gl t j).f0.size ≤ 1048576 ∧ (gl t j).f2.size ≤ 1048576) := by
  intro n
  induction n with
  | zero =>
    intro k i a hk hi _ _
    obtain ⟨k, rfl⟩ : ∃ k', k = k' + 1 := ⟨k - 1, by omega⟩
    rw [laws_szEntryS.l0, if_neg (by omega)]
    exact ⟨_, rfl, Int.le_refl _, fun _ j h1 h2 => by omega⟩
  | succ n ih =>
    intro k i a hk hi h0 h1
    have hl := hf.1
    obtain ⟨k, rfl⟩ : ∃ k', k = k' + 1 := ⟨k - 1, by omega⟩
    have hw : wrap64 ((i : Int) + 1) = ((i + 1 : Nat) : Int) := by rw [wrap64_id (by omega) (by omega)]; omega
    obtain ⟨r, hr, hra, hr2⟩ := laws_szEntry_eq (gl t i).f0 (gl t i).f1 (gl t i).f2 (gl t i).f3 a (hf.2 i).1 (hf.2 i).2 h0 h1
    rw [laws_szEntryS.l0, if_pos (by omega), if_pos (by omega), rd_gl, hr, Option.bind_some, hw]
    by_cases hneg : r < 0
    · rw [if_pos hneg]; exact ⟨_, rfl, by omega, by omega⟩
    · rw [if_neg hneg]
      obtain ⟨q, hq, hqa, hq2⟩ := ih k (i + 1) r (by omega) (by omega) (by omega) (by omega)
      refine ⟨q, hq, by omega, fun h j h3 h4 => ?_⟩
      rcases Nat.lt_or_ge i j with h5 | h5
      · exact hq2 h j h5 h4
      · obtain rfl : j = i := by omega
        exact hr2 (by omega)
theorem szEntryS_le (t : List S70) (hf : fits t) (a : Int) (h0 : 0 ≤ a) (h1 : a ≤ 1048576) (k : Nat) (hk : t.length + 1 ≤ k) :
    ∃ r, laws_szEntryS.f k t a = some r ∧ r ≤ a ∧ (0 ≤ r → t.length ≤ 1048576 ∧ ∀ i, (gl t i).f0.size ≤ 1048576 ∧ (gl t i).f2.size ≤ 1048576) := by
  have hl := hf.1
  unfold laws_szEntryS.f
  rw [wrap64_id (by omega) (by omega)]
  by_cases h : a - (t.length : Int) < 0
  · rw [if_pos h]; exact ⟨_, rfl, by omega, by omega⟩
  · rw [if_neg h]
    obtain ⟨r, hr, hra, h2⟩ := szEntryS_l0_le t hf t.length k 0 (a - (t.length : Int)) hk (by omega) (by omega) (by omega)
    refine ⟨r, hr, by omega, fun h3 => ⟨by omega, fun i => ?_⟩⟩
    rcases Nat.lt_or_ge i t.length with h4 | h4
    · exact h2 h3 i (Nat.zero_le _) h4
    · rw [gl_beyond t i h4]; decide
theorem szStringS_l0_le (l : List ByteArray) (hl : l.length ≤ 9223372036854775807) (hz : ∀ i, (l.getD i ByteArray.empty).size ≤ 9223372036854775807) : ∀ (n k i : Nat) (a : Int), n + 1 ≤ k → i + n = l.length → 0 ≤ a → a ≤ 1048576 →
    ∃ r, laws_szStringS.l0 k l a (i : Int) = some r ∧ r ≤ a := by
  intro n
  induction n with
  | zero =>
    intro k i a hk hi _ _
    obtain ⟨k, rfl⟩ : ∃ k', k = k' + 1 := ⟨k - 1, by omega⟩
    rw [laws_szStringS.l0, if_neg (by omega)]
    exact ⟨_, rfl, Int.le_refl _⟩
  | succ n ih =>
    intro k i a hk hi h0 h1
    obtain ⟨k, rfl⟩ : ∃ k', k = k' + 1 := ⟨k - 1, by omega⟩
    have hzi := hz i
    rw [laws_szStringS.l0, if_pos (by omega), if_pos (by omega), rdB_getD, wrap64_id (n := a - ((l.getD i ByteArray.empty).size : Int)) (by omega) (by omega)]
    by_cases hneg : a - ((l.getD i ByteArray.empty).size : Int) < 0
    · rw [if_pos hneg]; exact ⟨_, rfl, by omega⟩
    · rw [if_neg hneg, show wrap64 ((i : Int) + 1) = ((i + 1 : Nat) : Int) by rw [wrap64_id (by omega) (by omega)]; omega]
      obtain ⟨q, hq, hqa⟩ := ih k (i + 1) (a - ((l.getD i ByteArray.empty).size : Int)) (by omega) (by omega) (by omega) (by omega)
      exact ⟨q, hq, by omega⟩
theorem szStringS_le (l : List ByteArray) (hl : l.length ≤ 9223372036854775807) (hz : ∀ i, (l.getD i ByteArray.empty).size ≤ 9223372036854775807) (a : Int) (h0 : 0 ≤ a) (h1 : a ≤ 1048576) (k : Nat) (hk : l.length + 1 ≤ k) :
    ∃ r, laws_szStringS.f k l a = some r ∧ r ≤ a ∧ (0 ≤ r → l.length ≤ 1048576) := by
  unfold laws_szStringS.f
  rw [wrap64_id (by omega) (by omega)]
  by_cases h : a - (l.length : Int) < 0
  · rw [if_pos h]; exact ⟨_, rfl, by omega, by omega⟩
  · rw [if_neg h]
    obtain ⟨r, hr, hra⟩ := szStringS_l0_le l hl hz l.length k 0 (a - (l.length : Int)) hk (by omega) (by omega) (by omega)
    exact ⟨r, hr, by omega, fun h3 => by omega⟩
def gj (l : List S52) (i : Nat) : S52 := l.getD i z52
theorem rd_gj (l : List S52) (i : Nat) : rd_T52 l (i : Int) = gj l i := by simp [rd_T52, gj]
theorem gj_get (l : List S52) (i : Nat) (h : i < l.length) : gj l i = l[i] := by simp [gj, List.getD_eq_getElem?_getD, List.getElem?_eq_getElem h]
theorem gj_beyond (l : List S52) (i : Nat) (h : l.length ≤ i) : gj l i = z52 := by simp [gj, List.getD_eq_getElem?_getD, List.getElem?_eq_none h]
def fitsI (x : S52) : Prop := x.f0.size ≤ 9223372036854775807 ∧ x.f1.size ≤ 9223372036854775807 ∧ (x.f2.length ≤ 9223372036854775807 ∧ ∀ i, (x.f2.getD i ByteArray.empty).size ≤ 9223372036854775807) ∧ x.f3.size ≤ 9223372036854775807 ∧ fits x.f4
def fitsS (l : List S52) : Prop := l.length ≤ 9223372036854775807 ∧ ∀ i, fitsI (gj l i)
def smallJ (x : S52) : Prop := x.f0.size ≤ 1048576 ∧ x.f2.length ≤ 1048576 ∧ x.f4.length ≤ 1048576 ∧ ∀ j, (gl x.f4 j).f0.size ≤ 1048576 ∧ (gl x.f4 j).f2.size ≤ 1048576
theorem szItem_le (x : S52) (hf : fitsI x) (a : Int) (h0 : 0 ≤ a) (h1 : a ≤ 1048576) (k : Nat) (hk : 9223372036854775808 ≤ k) : ∃ r, laws_szItem.f k x.f0 x.f1 x.f2 x.f3 x.f4 a = some r ∧ r ≤ a ∧ (0 ≤ r → smallJ x) := by
  obtain ⟨p0, p1, ⟨p2, p2'⟩, p3, p4⟩ := hf
  have p4l := p4.1
  unfold laws_szItem.f
  rw [wrap64_id (n := a - (x.f0.size : Int)) (by omega) (by omega)]
  by_cases c0 : a - (x.f0.size : Int) < 0
  · rw [if_pos c0]; exact ⟨_, rfl, by omega, by omega⟩
  · rw [if_neg c0, wrap64_id (n := a - (x.f0.size : Int) - (x.f1.size : Int)) (by omega) (by omega)]
    by_cases c1 : a - (x.f0.size : Int) - (x.f1.size : Int) < 0
    · rw [if_pos c1]; exact ⟨_, rfl, by omega, by omega⟩
    · obtain ⟨r, hr, hra, hr2⟩ := szStringS_le x.f2 p2 p2' (a - (x.f0.size : Int) - (x.f1.size : Int)) (by omega) (by omega) k (by omega)
      rw [if_neg c1, hr, Option.bind_some]
      by_cases c2 : r < 0
      · rw [if_pos c2]; exact ⟨_, rfl, by omega, by omega⟩
      · rw [if_neg c2, wrap64_id (n := r - (x.f3.size : Int)) (by omega) (by omega)]
        by_cases c3 : r - (x.f3.size : Int) < 0
        · rw [if_pos c3]; exact ⟨_, rfl, by omega, by omega⟩
        · obtain ⟨q, hq, hqa, hq2⟩ := szEntryS_le x.f4 p4 (r - (x.f3.size : Int)) (by omega) (by omega) k (by omega)
          rw [if_neg c3, hq, Option.bind_some]
          by_cases c4 : q < 0
          · rw [if_pos c4]; exact ⟨_, rfl, by omega, by omega⟩
          · rw [if_neg c4]
            have hr3 := hr2 (by omega)
            obtain ⟨e1, e2⟩ := hq2 (by omega)
            exact ⟨_, rfl, by omega, fun _ => ⟨by omega, hr3, e1, e2⟩⟩
theorem szItemS_l0_le (l : List S52) (hf : fitsS l) : ∀ (n k i : Nat) (a : Int), n + 9223372036854775809 ≤ k → i + n = l.length → 0 ≤ a → a ≤ 1048576 →
    ∃ r, laws_szItemS.l0 k l a (i : Int) = some r ∧ (0 ≤ r → ∀ j, i ≤ j → j < l.length → smallJ (gj l j)) := by
  intro n
  induction n with
  | zero =>
    intro k i a hk hi _ _
    obtain ⟨k, rfl⟩ : ∃ k', k = k' + 1 := ⟨k - 1, by omega⟩
    rw [laws_szItemS.l0, if_neg (by omega)]
    exact ⟨_, rfl, fun _ j h1 h2 => by omega⟩
  | succ n ih =>
    intro k i a hk hi h0 h1
    have hl := hf.1
    obtain ⟨k, rfl⟩ : ∃ k', k = k' + 1 := ⟨k - 1, by omega⟩
    have hw : wrap64 ((i : Int) + 1) = ((i + 1 : Nat) : Int) := by rw [wrap64_id (by omega) (by omega)]; omega
    obtain ⟨r, hr, hra, hr2⟩ := szItem_le (gj l i) (hf.2 i) a h0 h1 k (by omega)
    rw [laws_szItemS.l0, if_pos (by omega), if_pos (by omega), rd_gj, hr, Option.bind_some, hw]
    by_cases hneg : r < 0
    · rw [if_pos hneg]; exact ⟨_, rfl, by omega⟩
    · rw [if_neg hneg]
      obtain ⟨q, hq, hq2⟩ := ih k (i + 1) r (by omega) (by omega) (by omega) (by omega)
      refine ⟨q, hq, fun h j h3 h4 => ?_⟩
      rcases Nat.lt_or_ge i j with h5 | h5
      · exact hq2 h j h5 h4
      · obtain rfl : j = i := by omega
        exact hr2 (by omega)
theorem szItemS_eq (l : List S52) (hf : fitsS l) (k : Nat) (hk : l.length + 9223372036854775809 ≤ k) :
    ∃ r, laws_szItemS.f k l 1048576 = some r ∧ (0 ≤ r → l.length ≤ 1048576 ∧ ∀ i, smallJ (gj l i)) := by
  have hl := hf.1
  unfold laws_szItemS.f
  rw [wrap64_id (by omega) (by omega)]
  by_cases h : 1048576 - (l.length : Int) < 0
  · rw [if_pos h]; exact ⟨_, rfl, by omega⟩
  · rw [if_neg h]
    obtain ⟨r, hr, h2⟩ := szItemS_l0_le l hf l.length k 0 (1048576 - (l.length : Int)) hk (by omega) (by omega) (by omega)
    refine ⟨r, hr, fun h3 => ⟨by omega, fun i => ?_⟩⟩
    rcases Nat.lt_or_ge i l.length with h4 | h4
    · exact h2 h3 i (Nat.zero_le _) h4
    · rw [gj_beyond l i h4]
      exact ⟨by decide, by decide, by decide, fun j => by have e : gl (z52).f4 j = z70 := gl_beyond _ j (Nat.zero_le _); rw [e]; decide⟩
end Go.Proofs.YtikjbfjnbhaljaaGreatDoor.P
end

section
set_option linter.unusedVariables false
set_option linter.unusedSimpArgs false
namespace Go.Proofs.YtikjbfjnbhaljaaGreatDoor.P
open Go.RowKit Go.Proofs.YtikjbfjnbhaljaaGreatDoorW.PrintWords Go.Proofs.YtikjbfjnbhaljaaGreatDoorW.PrintLast Go.Proofs.YtikjbfjnbhaljaaGreatDoorW.PrintMore Go.Proofs.YtikjbfjnbhaljaaGreatDoorM
theorem toStringS_l0 (l : List ByteArray) (hl : l.length ≤ 1048576) : ∀ (n k i : Nat), n + 1 ≤ k → i + n = l.length → laws_toStringS.l0 k l (l.take i ++ List.replicate n (⟨#[]⟩ : ByteArray)) (i : Int) = some l := by
  intro n
  induction n with
  | zero =>
    intro k i hk hi
    obtain ⟨k, rfl⟩ : ∃ k', k = k' + 1 := ⟨k - 1, by omega⟩
    rw [laws_toStringS.l0, if_neg (by omega), List.take_of_length_le (by omega)]
    simp
  | succ n ih =>
    intro k i hk hi
    obtain ⟨k, rfl⟩ : ∃ k', k = k' + 1 := ⟨k - 1, by omega⟩
    have hw : wrap64 ((i : Int) + 1) = ((i + 1 : Nat) : Int) := by rw [wrap64_id (by omega) (by omega)]; omega
    have hlt : i < l.length := by omega
    have htl : (l.take i).length = i := by simp; omega
    have e : (l.take i ++ List.replicate (n + 1) (⟨#[]⟩ : ByteArray)).set i l[i] = l.take (i + 1) ++ List.replicate n (⟨#[]⟩ : ByteArray) := by
      rw [List.set_append_right _ _ (by omega), htl, Nat.sub_self, List.replicate_succ, List.set_cons_zero, List.take_succ_eq_append_getElem hlt, List.append_assoc, List.singleton_append]
    rw [laws_toStringS.l0, if_pos (by omega), if_pos (by omega), if_pos (by simp; omega), rdB_at l i hlt, hw, Int.toNat_natCast, e]
    exact ih k (i + 1) (by omega) (by omega)
theorem toStringS_eq (l : List ByteArray) (hl : l.length ≤ 1048576) (k : Nat) (hk : l.length + 1 ≤ k) : laws_toStringS.f k l = some l := by
  unfold laws_toStringS.f
  rw [if_pos (by omega), if_pos (by omega), Int.toNat_natCast]
  have := toStringS_l0 l hl l.length k 0 hk (by omega)
  simpa using this
def cvI (x : S52) : S55 := ⟨x.f0, x.f1, x.f2, x.f3, x.f4.map cv⟩
theorem toItemS_l0 (l : List S52) (hl : l.length ≤ 1048576) (hs : ∀ i, smallJ (gj l i)) : ∀ (n k i : Nat), n + 1048600 ≤ k → i + n = l.length →
    laws_toItemS.l0 k l ((l.take i).map cvI ++ List.replicate n z55) (i : Int) = some (l.map cvI) := by
  intro n
  induction n with
  | zero =>
    intro k i hk hi
    obtain ⟨k, rfl⟩ : ∃ k', k = k' + 1 := ⟨k - 1, by omega⟩
    rw [laws_toItemS.l0, if_neg (by omega), List.take_of_length_le (by omega)]
    simp
  | succ n ih =>
    intro k i hk hi
    obtain ⟨k, rfl⟩ : ∃ k', k = k' + 1 := ⟨k - 1, by omega⟩
    have hw : wrap64 ((i : Int) + 1) = ((i + 1 : Nat) : Int) := by rw [wrap64_id (by omega) (by omega)]; omega
    have hlt : i < l.length := by omega
    have htl : ((l.take i).map cvI).length = i := by simp; omega
    obtain ⟨s0, s2, s4, _⟩ := hs i
    have e : ((l.take i).map cvI ++ List.replicate (n + 1) z55).set i (cvI (gj l i)) = (l.take (i + 1)).map cvI ++ List.replicate n z55 := by
      rw [List.set_append_right _ _ (by omega), htl, Nat.sub_self, List.replicate_succ, List.set_cons_zero, List.take_succ_eq_append_getElem hlt, List.map_append, gj_get l i hlt, List.append_assoc]
      rfl
    rw [laws_toItemS.l0, if_pos (by omega), if_pos (by omega), rd_gj]
    unfold laws_toItem.f
    rw [toStringS_eq _ s2 k (by omega), Option.bind_some, laws_toEntryS_eq _ s4 k (by omega), Option.bind_some, Option.bind_some, if_pos (by simp; omega), hw, Int.toNat_natCast]
    show laws_toItemS.l0 k l (((l.take i).map cvI ++ List.replicate (n + 1) z55).set i (cvI (gj l i))) _ = _
    rw [e]
    exact ih k (i + 1) (by omega) (by omega)
theorem toItemS_eq (l : List S52) (hl : l.length ≤ 1048576) (hs : ∀ i, smallJ (gj l i)) (k : Nat) (hk : 3000000 ≤ k) : laws_toItemS.f k l = some (l.map cvI) := by
  unfold laws_toItemS.f
  rw [if_pos (by omega), if_pos (by omega), Int.toNat_natCast]
  have := toItemS_l0 l hl hs l.length k 0 (by omega) (by omega)
  simpa using this
theorem eqStringS_l0 (l : List ByteArray) (hl : l.length ≤ 1048576) : ∀ (n k i : Nat), n + 1 ≤ k → i + n = l.length → laws_eqStringS.l0 k l l (i : Int) = some true := by
  intro n
  induction n with
  | zero =>
    intro k i hk hi
    obtain ⟨k, rfl⟩ : ∃ k', k = k' + 1 := ⟨k - 1, by omega⟩
    rw [laws_eqStringS.l0, if_neg (by omega)]
  | succ n ih =>
    intro k i hk hi
    obtain ⟨k, rfl⟩ : ∃ k', k = k' + 1 := ⟨k - 1, by omega⟩
    have hw : wrap64 ((i : Int) + 1) = ((i + 1 : Nat) : Int) := by rw [wrap64_id (by omega) (by omega)]; omega
    rw [laws_eqStringS.l0, if_pos (by omega), if_pos (by omega), if_pos (by omega), if_pos rfl, hw]
    exact ih k (i + 1) (by omega) (by omega)
theorem eqItemS_l0 (l : List S55) (hl : l.length ≤ 1048576) (hs : ∀ i, (gi l i).f2.length ≤ 1048576 ∧ (gi l i).f4.length ≤ 1048576) : ∀ (n k i : Nat), n + 1048600 ≤ k → i + n = l.length → laws_eqItemS.l0 k l l (i : Int) = some true := by
  intro n
  induction n with
  | zero =>
    intro k i hk hi
    obtain ⟨k, rfl⟩ : ∃ k', k = k' + 1 := ⟨k - 1, by omega⟩
    rw [laws_eqItemS.l0, if_neg (by omega)]
  | succ n ih =>
    intro k i hk hi
    obtain ⟨k, rfl⟩ : ∃ k', k = k' + 1 := ⟨k - 1, by omega⟩
    have hw : wrap64 ((i : Int) + 1) = ((i + 1 : Nat) : Int) := by rw [wrap64_id (by omega) (by omega)]; omega
    obtain ⟨s2, s4⟩ := hs i
    have e2 : laws_eqStringS.f k (gi l i).f2 (gi l i).f2 = some true := by
      unfold laws_eqStringS.f
      rw [if_pos rfl]
      exact eqStringS_l0 _ s2 (gi l i).f2.length k 0 (by omega) (by omega)
    rw [laws_eqItemS.l0, if_pos (by omega), if_pos (by omega), if_pos (by omega), hw, rd_gi]
    unfold laws_eqItem.f
    rw [if_pos rfl, if_pos rfl, e2, Option.bind_some, if_pos rfl, if_pos rfl, laws_eqEntryS_refl _ s4 k (by omega), Option.bind_some, if_pos rfl, Option.bind_some, if_pos rfl]
    exact ih k (i + 1) (by omega) (by omega)
theorem gi_cv (l : List S52) (i : Nat) : gi (l.map cvI) i = cvI (gj l i) := by
  unfold gi gj
  rw [List.getD_eq_getElem?_getD, List.getD_eq_getElem?_getD, List.getElem?_map]
  cases l[i]? <;> rfl
theorem passed (l : List S52) (hl : l.length ≤ 1048576) (hs : ∀ i, smallJ (gj l i)) (K : Nat) (hK : l.length + 9223372036854775809 ≤ K) :
    smallS (l.map cvI) ∧ laws_eqItemS.f K (l.map cvI) (l.map cvI) = some true ∧ (l.map cvI).length ≤ 1048576 ∧ ∀ i, (gi (l.map cvI) i).f4.length ≤ 1048576 := by
  refine ⟨fun i => ?_, ?_, by rw [List.length_map]; exact hl, fun i => ?_⟩
  · rw [gi_cv]
    exact ⟨(hs i).1, (hs i).2.1, fun j => by have e : gd (cvI (gj l i)).f4 j = cv (gl (gj l i).f4 j) := gd_cv _ j; rw [e]; exact (hs i).2.2.2 j⟩
  · unfold laws_eqItemS.f
    rw [if_pos rfl]
    refine eqItemS_l0 (l.map cvI) (by simpa using hl) (fun i => ?_) (l.map cvI).length K 0 (by rw [List.length_map]; omega) (by omega)
    rw [gi_cv]
    exact ⟨(hs i).2.1, by show ((gj l i).f4.map cv).length ≤ _; rw [List.length_map]; exact (hs i).2.2.1⟩
  · rw [gi_cv]
    show ((gj l i).f4.map cv).length ≤ _
    rw [List.length_map]
    exact (hs i).2.2.1
theorem fitsS_of (l : List S52) (hl : l.length ≤ maxLen) (hg : ∀ x ∈ l, x.f0.size ≤ maxLen ∧ x.f1.size ≤ maxLen ∧ (x.f2.length ≤ maxLen ∧ ∀ a ∈ x.f2, a.size ≤ maxLen) ∧ x.f3.size ≤ maxLen ∧ (x.f4.length ≤ maxLen ∧ ∀ a ∈ x.f4, a.f0.size ≤ maxLen ∧ (Lit.int .i64 a.f1).wf = true ∧ a.f2.size ≤ maxLen ∧ True)) : fitsS l := by
  refine ⟨by unfold maxLen at hl; omega, fun i => ?_⟩
  rcases Nat.lt_or_ge i l.length with h | h
  · rw [gj_get l i h]
    obtain ⟨h0, h1, ⟨h2, h2'⟩, h3, h4, h4'⟩ := hg _ (List.getElem_mem h)
    unfold maxLen at h0 h1 h2 h3
    refine ⟨by omega, by omega, ⟨by omega, fun j => ?_⟩, by omega, fits_of _ h4 h4'⟩
    rcases Nat.lt_or_ge j l[i].f2.length with hj | hj
    · have := h2' _ (List.getElem_mem hj)
      unfold maxLen at this
      rw [List.getD_eq_getElem?_getD, List.getElem?_eq_getElem hj]
      show (l[i].f2[j]).size ≤ _
      omega
    · rw [List.getD_eq_getElem?_getD, List.getElem?_eq_none hj]; decide
  · rw [gj_beyond l i h]
    exact ⟨by decide, by decide, ⟨by decide, fun j => by rw [List.getD_eq_getElem?_getD, List.getElem?_eq_none (Nat.zero_le j)]; decide⟩, by decide, fits_of _ (by decide) (fun a ha => by cases ha)⟩
end Go.Proofs.YtikjbfjnbhaljaaGreatDoor.P
end

section
set_option linter.unusedVariables false
set_option linter.unusedSimpArgs false
namespace Go.Proofs.YtikjbfjnbhaljaaGreatDoor.P
open Go.RowKit Go.Proofs.YtikjbfjnbhaljaaGreatDoorW.PrintWords Go.Proofs.YtikjbfjnbhaljaaGreatDoorW.PrintLast Go.Proofs.YtikjbfjnbhaljaaGreatDoorW.PrintMore Go.Proofs.YtikjbfjnbhaljaaGreatDoorM
def cont (t : List S57) : List (ByteArray × Bool) := (t.filter fun e => decide (e.f1 = 2)).map fun e => (e.f2, e.f3)
def conts (l : List S55) : List (ByteArray × Bool) := l.flatMap fun x => cont x.f4
def isIn (P : List (ByteArray × Bool)) (c : ByteArray × Bool) : Bool := P.any fun p => decide (p = c)
theorem isIn_iff {P : List (ByteArray × Bool)} {c : ByteArray × Bool} : isIn P c = true ↔ c ∈ P := by
  unfold isIn
  rw [List.any_eq_true]
  exact ⟨fun ⟨p, hp, h⟩ => by rw [← of_decide_eq_true h]; exact hp, fun h => ⟨c, h, decide_eq_true rfl⟩⟩
def optG : Int → List (ByteArray × Bool) → List (ByteArray × Bool) → Int
  | n, _, [] => n
  | n, P, c :: cs => optG (if isIn P c = true then wrap64 (n + (c.1.size : Int)) else n) (P ++ [c]) cs
def marks (P : List (ByteArray × Bool)) : List ((ByteArray × Bool) × Bool) := P.map fun c => (c, true)
theorem marks_snoc (P : List (ByteArray × Bool)) (c : ByteArray × Bool) : marks P ++ [(c, true)] = marks (P ++ [c]) := by simp [marks]
theorem marks_get (c : ByteArray × Bool) (P : List (ByteArray × Bool)) : mgetD false (marks P) c = isIn P c := by
  have : ∀ (P : List (ByteArray × Bool)) (b : Bool), (marks P).foldl (fun a p => if p.1 = c then p.2 else a) b = (isIn P c || b) := by
    intro P
    induction P with
    | nil => intro b; simp [marks, isIn]
    | cons p P ih =>
      intro b
      rw [show marks (p :: P) = (p, true) :: marks P from rfl, List.foldl_cons, ih, show isIn (p :: P) c = (decide (p = c) || isIn P c) from rfl]
      by_cases h : p = c
      · simp [h]
      · simp [h]
  have h := this P false
  rw [Bool.or_false] at h
  exact h
theorem cont_length (t : List S57) : (cont t).length ≤ t.length := by unfold cont; rw [List.length_map]; exact List.length_filter_le _ _
theorem conts_length (l : List S55) (B : Nat) (h : ∀ x ∈ l, x.f4.length ≤ B) : (conts l).length ≤ l.length * B := by
  induction l with
  | nil => simp [conts]
  | cons x l ih =>
    have h1 := ih fun y hy => h y (List.mem_cons_of_mem _ hy)
    have h2 := cont_length x.f4
    have h3 := h x List.mem_cons_self
    have h4 : conts (x :: l) = cont x.f4 ++ conts l := rfl
    rw [h4, List.length_append, List.length_cons, Nat.add_mul]
    omega
theorem cont_step (t : List S57) (j : Nat) (h : j < t.length) : cont (t.drop j) = (if (gd t j).f1 = 2 then [((gd t j).f2, (gd t j).f3)] else []) ++ cont (t.drop (j + 1)) := by
  rw [List.drop_eq_getElem_cons h, ← gd_get t j h]
  unfold cont
  rw [List.filter_cons]
  by_cases h2 : (gd t j).f1 = 2 <;> simp [h2]
theorem optG_step (n : Int) (P : List (ByteArray × Bool)) (c : ByteArray × Bool) (cs : List (ByteArray × Bool)) : optG n P (c :: cs) = optG (if isIn P c = true then wrap64 (n + (c.1.size : Int)) else n) (P ++ [c]) cs := rfl
theorem iopt_l1 (l : List S55) (t : List S57) (ht : t.length ≤ 1048576) (hsz : ∀ j, (gd t j).f2.size ≤ 1048576) (i : Int) (rest : List (ByteArray × Bool))
    (hnext : ∀ P n, P.length + rest.length < 1099511627776 → ∃ K, ∀ k, K ≤ k → impl_Optimise.l0 k (marks P) n l (l.length : Int) (wrap64 (i + 1)) = some (optG n P rest)) :
    ∀ (m j : Nat) (P : List (ByteArray × Bool)) (n : Int), j + m = t.length → P.length + (cont (t.drop j)).length + rest.length < 1099511627776 →
      ∃ K, ∀ k, K ≤ k → impl_Optimise.l1 k (marks P) n l (l.length : Int) i t (t.length : Int) (j : Int) = some (optG n P (cont (t.drop j) ++ rest)) := by
  intro m
  induction m with
  | zero =>
    intro j P n hj hlen
    have e : t.drop j = [] := List.drop_eq_nil_of_le (by omega)
    rw [e] at hlen ⊢
    obtain ⟨K, hK⟩ := hnext P n (by simp [cont] at hlen; omega)
    refine ⟨K + 1, fun k hk => ?_⟩
    obtain ⟨k, rfl⟩ : ∃ k', k = k' + 1 := ⟨k - 1, by omega⟩
    rw [impl_Optimise.l1, if_neg (by omega), hK k (by omega)]
    rfl
  | succ m ih =>
    intro j P n hj hlen
    have hw : wrap64 ((j : Int) + 1) = ((j + 1 : Nat) : Int) := by rw [wrap64_id (by omega) (by omega)]; omega
    have hs := hsz j
    rw [cont_step t j (by omega)] at hlen ⊢
    by_cases h2 : (gd t j).f1 = 2
    · rw [if_pos h2] at hlen ⊢
      have hl2 : P.length + (1 + (cont (t.drop (j + 1))).length) + rest.length < 1099511627776 := by simpa [List.length_append, Nat.add_comm] using hlen
      obtain ⟨K, hK⟩ := ih (j + 1) (P ++ [((gd t j).f2, (gd t j).f3)]) (if isIn P ((gd t j).f2, (gd t j).f3) = true then wrap64 (n + ((gd t j).f2.size : Int)) else n) (by omega) (by rw [List.length_append, List.length_singleton]; omega)
      refine ⟨K + 1, fun k hk => ?_⟩
      obtain ⟨k, rfl⟩ : ∃ k', k = k' + 1 := ⟨k - 1, by omega⟩
      have h3 := hK k (by omega)
      rw [impl_Optimise.l1, if_pos (by omega), if_pos (by omega), if_pos (by omega), rd_gd, if_pos h2, if_pos (by omega), marks_get, marks_snoc, hw]
      have hm : (marks P).length < 1099511627776 := by unfold marks; rw [List.length_map]; omega
      rw [List.singleton_append, List.cons_append, optG_step]
      by_cases hc : isIn P ((gd t j).f2, (gd t j).f3) = true
      · rw [if_pos hc, if_pos hm]
        rw [if_pos hc] at h3 ⊢
        exact h3
      · rw [if_neg hc, if_pos hm]
        rw [if_neg hc] at h3 ⊢
        exact h3
    · rw [if_neg h2, List.nil_append] at hlen ⊢
      obtain ⟨K, hK⟩ := ih (j + 1) P n (by omega) hlen
      refine ⟨K + 1, fun k hk => ?_⟩
      obtain ⟨k, rfl⟩ : ∃ k', k = k' + 1 := ⟨k - 1, by omega⟩
      rw [impl_Optimise.l1, if_pos (by omega), if_pos (by omega), if_pos (by omega), rd_gd, if_neg h2, hw]
      exact hK k (by omega)
theorem conts_step (l : List S55) (i : Nat) (h : i < l.length) : conts (l.drop i) = cont (gi l i).f4 ++ conts (l.drop (i + 1)) := by
  rw [List.drop_eq_getElem_cons h, ← gi_get l i h]
  rfl
theorem iopt_l0 (l : List S55) (hl : l.length ≤ 1048576) (hs : smallS l) (h4 : ∀ i, (gi l i).f4.length ≤ 1048576) : ∀ (m i : Nat) (P : List (ByteArray × Bool)) (n : Int), i + m = l.length →
    P.length + (conts (l.drop i)).length < 1099511627776 → ∃ K, ∀ k, K ≤ k → impl_Optimise.l0 k (marks P) n l (l.length : Int) (i : Int) = some (optG n P (conts (l.drop i))) := by
  intro m
  induction m with
  | zero =>
    intro i P n hi hlen
    refine ⟨1, fun k hk => ?_⟩
    obtain ⟨k, rfl⟩ : ∃ k', k = k' + 1 := ⟨k - 1, by omega⟩
    rw [impl_Optimise.l0, if_neg (by omega), List.drop_eq_nil_of_le (by omega)]
    rfl
  | succ m ih =>
    intro i P n hi hlen
    have hw : wrap64 ((i : Int) + 1) = ((i + 1 : Nat) : Int) := by rw [wrap64_id (by omega) (by omega)]; omega
    rw [conts_step l i (by omega)] at hlen ⊢
    rw [List.length_append] at hlen
    obtain ⟨K, hK⟩ := iopt_l1 l (gi l i).f4 (h4 i) (fun j => ((hs i).2.2 j).2) (i : Int) (conts (l.drop (i + 1))) (fun P n hp => by rw [hw]; exact ih (i + 1) P n (by omega) hp) (gi l i).f4.length 0 P n (by omega) (by rw [List.drop_zero]; omega)
    refine ⟨K + 1, fun k hk => ?_⟩
    obtain ⟨k, rfl⟩ : ∃ k', k = k' + 1 := ⟨k - 1, by omega⟩
    rw [impl_Optimise.l0, if_pos (by omega), if_pos (by omega), if_pos (by omega), rd_gi]
    exact hK k (by omega)
def keeps (x : List S57) (P : List (ByteArray × Bool)) : Prop := x.length ≤ P.length ∧ ∀ c, (∃ e ∈ x, (e.f2, e.f3) = c) ↔ c ∈ P
theorem sopt_l2 (l : List S55) (n : Int) (x : List S57) (hx : x.length < 1099511627776) (i j : Int) (p : ByteArray) (q : Int) (d : ByteArray) (b : Bool) (r : Int)
    (hk1 : (∃ e ∈ x, (e.f2, e.f3) = (d, b)) → ∃ K, ∀ k, K ≤ k → spec_Optimise.l1 k l (wrap64 (n + (d.size : Int))) x i (wrap64 (j + 1)) = some r)
    (hk0 : ¬ (∃ e ∈ x, (e.f2, e.f3) = (d, b)) → ∃ K, ∀ k, K ≤ k → spec_Optimise.l1 k l n (x ++ [⟨p, q, d, b⟩]) i (wrap64 (j + 1)) = some r) :
    ∀ (m s : Nat), s + m = x.length → (∀ e ∈ x.take s, ¬ (e.f2, e.f3) = (d, b)) → ∃ K, ∀ k, K ≤ k → spec_Optimise.l2 k l n x i j false (s : Int) p q d b = some r := by
  intro m
  induction m with
  | zero =>
    intro s hs hno
    rw [List.take_of_length_le (by omega)] at hno
    obtain ⟨K, hK⟩ := hk0 (fun ⟨e, he, h⟩ => hno e he h)
    refine ⟨K + 1, fun k hk => ?_⟩
    obtain ⟨k, rfl⟩ : ∃ k', k = k' + 1 := ⟨k - 1, by omega⟩
    rw [spec_Optimise.l2, if_neg (by omega), if_neg (by decide), if_pos (by omega)]
    exact hK k (by omega)
  | succ m ih =>
    intro s hs hno
    have hlt : s < x.length := by omega
    have hw : wrap64 ((s : Int) + 1) = ((s + 1 : Nat) : Int) := by rw [wrap64_id (by omega) (by omega)]; omega
    by_cases hc : ((gd x s).f2, (gd x s).f3) = (d, b)
    · obtain ⟨K, hK⟩ := hk1 ⟨gd x s, gd_mem x s hlt, hc⟩
      obtain ⟨hd, hb⟩ := Prod.mk.inj hc
      refine ⟨K + 2, fun k hk => ?_⟩
      obtain ⟨k, rfl⟩ : ∃ k', k = k' + 2 := ⟨k - 2, by omega⟩
      rw [spec_Optimise.l2, if_pos (by omega), if_neg (by decide), if_pos (by omega), rd_gd, hd, hb, if_pos rfl, beq_self_eq_true, hw]
      by_cases h5 : s + 1 < x.length
      · rw [spec_Optimise.l2, if_pos (by omega), if_pos rfl]
        exact hK k (by omega)
      · rw [spec_Optimise.l2, if_neg (by omega), if_pos rfl]
        exact hK k (by omega)
    · obtain ⟨K, hK⟩ := ih (s + 1) (by omega) (fun e he => by
        rw [List.take_succ_eq_append_getElem hlt, List.mem_append] at he
        rcases he with he | he
        · exact hno e he
        · obtain rfl := List.mem_singleton.1 he
          rw [← gd_get x s hlt]
          exact hc)
      refine ⟨K + 1, fun k hk => ?_⟩
      obtain ⟨k, rfl⟩ : ∃ k', k = k' + 1 := ⟨k - 1, by omega⟩
      rw [spec_Optimise.l2, if_pos (by omega), if_neg (by decide), if_pos (by omega), rd_gd, toList_bs, toList_bs, hw]
      by_cases hd : bs (gd x s).f2 = bs d
      · rw [if_pos hd]
        have hb : ((gd x s).f3 == b) = false := by
          rw [beq_eq_false_iff_ne]
          intro hb
          exact hc (by rw [bs_inj hd, hb])
        rw [hb]
        exact hK k (by omega)
      · rw [if_neg hd]
        exact hK k (by omega)
theorem keeps_put {x : List S57} {P : List (ByteArray × Bool)} (h : keeps x P) (e : S57) : keeps (x ++ [e]) (P ++ [(e.f2, e.f3)]) := by
  refine ⟨by have := h.1; simp; omega, fun c => ?_⟩
  rw [List.mem_append, ← h.2 c, List.mem_singleton]
  constructor
  · rintro ⟨y, hy, rfl⟩
    rcases List.mem_append.1 hy with hy | hy
    · exact .inl ⟨y, hy, rfl⟩
    · obtain rfl := List.mem_singleton.1 hy
      exact .inr rfl
  · rintro (⟨y, hy, rfl⟩ | rfl)
    · exact ⟨y, List.mem_append.2 (.inl hy), rfl⟩
    · exact ⟨e, List.mem_append.2 (.inr (List.mem_singleton.2 rfl)), rfl⟩
theorem keeps_same {x : List S57} {P : List (ByteArray × Bool)} (h : keeps x P) {c : ByteArray × Bool} (hc : c ∈ P) : keeps x (P ++ [c]) := by
  refine ⟨by have := h.1; simp; omega, fun c2 => ?_⟩
  rw [List.mem_append, h.2 c2, List.mem_singleton]
  constructor
  · exact .inl
  · rintro (h | rfl)
    · exact h
    · exact hc
theorem sopt_l1 (l : List S55) (i : Nat) (hi : i < l.length) (ht : (gi l i).f4.length ≤ 1048576) (rest : List (ByteArray × Bool))
    (hnext : ∀ P n x, keeps x P → P.length + rest.length < 1099511627776 → ∃ K, ∀ k, K ≤ k → spec_Optimise.l0 k l n x (wrap64 ((i : Int) + 1)) = some (optG n P rest)) :
    ∀ (m j : Nat) (P : List (ByteArray × Bool)) (n : Int) (x : List S57), keeps x P → j + m = (gi l i).f4.length → P.length + (cont ((gi l i).f4.drop j)).length + rest.length < 1099511627776 →
      ∃ K, ∀ k, K ≤ k → spec_Optimise.l1 k l n x (i : Int) (j : Int) = some (optG n P (cont ((gi l i).f4.drop j) ++ rest)) := by
  intro m
  induction m with
  | zero =>
    intro j P n x hx hj hlen
    have e : (gi l i).f4.drop j = [] := List.drop_eq_nil_of_le (by omega)
    rw [e] at hlen ⊢
    obtain ⟨K, hK⟩ := hnext P n x hx (by simp [cont] at hlen; omega)
    refine ⟨K + 1, fun k hk => ?_⟩
    obtain ⟨k, rfl⟩ : ∃ k', k = k' + 1 := ⟨k - 1, by omega⟩
    rw [spec_Optimise.l1, if_pos (by omega), if_pos (by omega), rd_gi, if_neg (by omega), hK k (by omega)]
    rfl
  | succ m ih =>
    intro j P n x hx hj hlen
    have hw : wrap64 ((j : Int) + 1) = ((j + 1 : Nat) : Int) := by rw [wrap64_id (by omega) (by omega)]; omega
    rw [cont_step _ j (by omega)] at hlen ⊢
    by_cases h2 : (gd (gi l i).f4 j).f1 = 2
    · rw [if_pos h2] at hlen ⊢
      have hl2 : P.length + (1 + (cont ((gi l i).f4.drop (j + 1))).length) + rest.length < 1099511627776 := by simpa [List.length_append, Nat.add_comm] using hlen
      rw [List.singleton_append, List.cons_append, optG_step]
      obtain ⟨K, hK⟩ := sopt_l2 l n x (by have := hx.1; omega) (i : Int) (j : Int) (gd (gi l i).f4 j).f0 (gd (gi l i).f4 j).f1 (gd (gi l i).f4 j).f2 (gd (gi l i).f4 j).f3
        (optG (if isIn P ((gd (gi l i).f4 j).f2, (gd (gi l i).f4 j).f3) = true then wrap64 (n + ((gd (gi l i).f4 j).f2.size : Int)) else n) (P ++ [((gd (gi l i).f4 j).f2, (gd (gi l i).f4 j).f3)]) (cont ((gi l i).f4.drop (j + 1)) ++ rest))
        (fun he => by
          have hc := (hx.2 _).1 he
          rw [hw]
          have h3 := ih (j + 1) (P ++ [((gd (gi l i).f4 j).f2, (gd (gi l i).f4 j).f3)]) (wrap64 (n + ((gd (gi l i).f4 j).f2.size : Int))) x (keeps_same hx hc) (by omega) (by rw [List.length_append, List.length_singleton]; omega)
          rw [if_pos (isIn_iff.2 hc)]
          exact h3)
        (fun he => by
          have hc : ¬ isIn P ((gd (gi l i).f4 j).f2, (gd (gi l i).f4 j).f3) = true := fun h => he ((hx.2 _).2 (isIn_iff.1 h))
          rw [hw]
          have h3 := ih (j + 1) (P ++ [((gd (gi l i).f4 j).f2, (gd (gi l i).f4 j).f3)]) n (x ++ [⟨(gd (gi l i).f4 j).f0, (gd (gi l i).f4 j).f1, (gd (gi l i).f4 j).f2, (gd (gi l i).f4 j).f3⟩]) (keeps_put hx _) (by omega) (by rw [List.length_append, List.length_singleton]; omega)
          rw [if_neg hc]
          exact h3)
        x.length 0 (by omega) (fun e he => by simp at he)
      refine ⟨K + 1, fun k hk => ?_⟩
      obtain ⟨k, rfl⟩ : ∃ k', k = k' + 1 := ⟨k - 1, by omega⟩
      rw [spec_Optimise.l1, if_pos (by omega), if_pos (by omega), rd_gi, if_pos (by omega), if_pos (by omega), rd_gd, if_pos h2]
      exact hK k (by omega)
    · rw [if_neg h2, List.nil_append] at hlen ⊢
      obtain ⟨K, hK⟩ := ih (j + 1) P n x hx (by omega) hlen
      refine ⟨K + 1, fun k hk => ?_⟩
      obtain ⟨k, rfl⟩ : ∃ k', k = k' + 1 := ⟨k - 1, by omega⟩
      rw [spec_Optimise.l1, if_pos (by omega), if_pos (by omega), rd_gi, if_pos (by omega), if_pos (by omega), rd_gd, if_neg h2, hw]
      exact hK k (by omega)
theorem sopt_l0 (l : List S55) (hl : l.length ≤ 1048576) (h4 : ∀ i, (gi l i).f4.length ≤ 1048576) : ∀ (m i : Nat) (P : List (ByteArray × Bool)) (n : Int) (x : List S57), keeps x P → i + m = l.length →
    P.length + (conts (l.drop i)).length < 1099511627776 → ∃ K, ∀ k, K ≤ k → spec_Optimise.l0 k l n x (i : Int) = some (optG n P (conts (l.drop i))) := by
  intro m
  induction m with
  | zero =>
    intro i P n x hx hi hlen
    refine ⟨1, fun k hk => ?_⟩
    obtain ⟨k, rfl⟩ : ∃ k', k = k' + 1 := ⟨k - 1, by omega⟩
    rw [spec_Optimise.l0, if_neg (by omega), List.drop_eq_nil_of_le (by omega)]
    rfl
  | succ m ih =>
    intro i P n x hx hi hlen
    have hw : wrap64 ((i : Int) + 1) = ((i + 1 : Nat) : Int) := by rw [wrap64_id (by omega) (by omega)]; omega
    rw [conts_step l i (by omega)] at hlen ⊢
    rw [List.length_append] at hlen
    obtain ⟨K, hK⟩ := sopt_l1 l i (by omega) (h4 i) (conts (l.drop (i + 1))) (fun P n x hx hp => by rw [hw]; exact ih (i + 1) P n x hx (by omega) hp) (gi l i).f4.length 0 P n x hx (by omega) (by rw [List.drop_zero]; omega)
    refine ⟨K + 1, fun k hk => ?_⟩
    obtain ⟨k, rfl⟩ : ∃ k', k = k' + 1 := ⟨k - 1, by omega⟩
    rw [spec_Optimise.l0, if_pos (by omega)]
    exact hK k (by omega)
theorem storeOk_few {k : Nat} {l : List S55} (h : impl_StoreOk.f k l = some true) : l.length ≤ 300 := by
  unfold impl_StoreOk.f at h
  by_cases h1 : l.length ≤ 300
  · exact h1
  · exfalso
    rw [if_pos (by omega)] at h
    cases h
theorem optimise_both (l : List S55) (hl : l.length ≤ 1048576) (hs : smallS l) (h4 : ∀ i, (gi l i).f4.length ≤ 1048576) :
    ∃ K r, ∀ k, K ≤ k → impl_Optimise.f k l = some r ∧ spec_Optimise.f k l = some r := by
  obtain ⟨b, hb1, hb2⟩ := StoreOk_both l hs 1100001000 (Nat.le_refl _)
  have hb : ∀ k, 1100001000 ≤ k → impl_StoreOk.f k l = some b ∧ spec_StoreOk.f k l = some b := fun k hk => by
    obtain ⟨b2, h1, h2⟩ := StoreOk_both l hs k hk
    have e := at_rounds (impl_StoreOk.mono l) hk hb1
    rw [h1] at e
    obtain rfl := Option.some.inj e
    exact ⟨h1, h2⟩
  cases b with
  | false =>
    refine ⟨1100001000, -1, fun k hk => ?_⟩
    obtain ⟨h1, h2⟩ := hb k hk
    unfold impl_Optimise.f spec_Optimise.f
    rw [h1, h2, Option.bind_some, Option.bind_some]
    exact ⟨rfl, rfl⟩
  | true =>
    have hfew := storeOk_few hb1
    have hc : (conts l).length ≤ l.length * 1048576 := conts_length l 1048576 fun x hx => by
      obtain ⟨i, hi, rfl⟩ := List.getElem_of_mem hx
      rw [← gi_get l i hi]
      exact h4 i
    have hc2 : (conts l).length < 1099511627776 := by
      have := Nat.mul_le_mul_right 1048576 hfew
      omega
    obtain ⟨K1, hK1⟩ := iopt_l0 l hl hs h4 l.length 0 [] 0 (by omega) (by rw [List.drop_zero]; simpa using hc2)
    obtain ⟨K2, hK2⟩ := sopt_l0 l hl h4 l.length 0 [] 0 [] ⟨Nat.le_refl _, fun c => by simp⟩ (by omega) (by rw [List.drop_zero]; simpa using hc2)
    refine ⟨K1 + K2 + 1100001000, optG 0 [] (conts l), fun k hk => ?_⟩
    obtain ⟨h1, h2⟩ := hb k (by omega)
    unfold impl_Optimise.f spec_Optimise.f
    rw [h1, h2, Option.bind_some, Option.bind_some, if_pos rfl, if_pos rfl]
    have h3 := hK1 k (by omega)
    have h5 := hK2 k (by omega)
    rw [List.drop_zero] at h3 h5
    exact ⟨h3, h5⟩
theorem FnExactOptimise_pure (l : List S52) (hf : fitsS l) : ∃ k, laws_FnExactOptimise.f k l = some true := by
  obtain ⟨r, hr, h2⟩ := szItemS_eq l hf (l.length + 9223372036854775809) (by omega)
  by_cases hneg : r < 0
  · refine ⟨l.length + 9223372036854775809, ?_⟩
    unfold laws_FnExactOptimise.f
    rw [hr, Option.bind_some, if_pos hneg]
  · obtain ⟨hl, hs⟩ := h2 (by omega)
    obtain ⟨hsm, _, hl2, h4⟩ := passed l hl hs (l.length + 9223372036854775809) (Nat.le_refl _)
    obtain ⟨K1, v, hv⟩ := optimise_both (l.map cvI) hl2 hsm h4
    obtain ⟨K, hK⟩ : ∃ K, K = K1 + (l.length + 9223372036854775809) := ⟨_, rfl⟩
    refine ⟨K, ?_⟩
    obtain ⟨_, heq, _⟩ := passed l hl hs K (by omega)
    obtain ⟨hv1, hv2⟩ := hv K (by omega)
    obtain ⟨r2, hr2, h22⟩ := szItemS_eq l hf K (by omega)
    unfold laws_FnExactOptimise.f
    rw [hr2, Option.bind_some]
    by_cases hneg2 : r2 < 0
    · rw [if_pos hneg2]
    · rw [if_neg hneg2]
      simp only [toItemS_eq l hl hs K (by omega), Option.bind_some, hv1, hv2, heq]
      simp
end Go.Proofs.YtikjbfjnbhaljaaGreatDoor.P
end

section
namespace Go.Proofs.YtikjbfjnbhaljaaGreatDoor.fnExactOptimise
open Go.ChangeShapes Go.WideShapes Go.ChangeAt Go.RowKit Go.Proofs.YtikjbfjnbhaljaaGreatDoorM
set_option linter.unusedVariables false
set_option maxRecDepth 100000
theorem own : ownKnob Tryz.prog.godebug = none := by kernel_rfl
theorem laidOut : laidOutB Tryz.prog = true := by kernel_rfl
def gok70 (b : P.S70) : Prop := b.f0.size ≤ maxLen ∧ (Lit.int .i64 b.f1).wf = true ∧ b.f2.size ≤ maxLen ∧ True
theorem opn70 (w : World) : Opn Tryz.prog w 70 P.k70 gok70 :=
  Opn.iso _ (fun y => ⟨y.1, y.2.1, y.2.2.1, y.2.2.2⟩) (fun _ => rfl) (Opn.struct Tryz.underlying70 (OpnF.cons _ rfl (by kernel_rfl) rfl (Opn.string Tryz.underlying9) (OpnF.cons _ rfl (by kernel_rfl) rfl (Opn.int Tryz.underlying2) (OpnF.cons _ rfl (by kernel_rfl) rfl (Opn.string Tryz.underlying9) (OpnF.last _ rfl rfl (by kernel_rfl) (Opn.bool Tryz.underlying4))))))
def gok52 (b : P.S52) : Prop := b.f0.size ≤ maxLen ∧ b.f1.size ≤ maxLen ∧ (b.f2.length ≤ maxLen ∧ ∀ a ∈ b.f2, a.size ≤ maxLen) ∧ b.f3.size ≤ maxLen ∧ (b.f4.length ≤ maxLen ∧ ∀ a ∈ b.f4, gok70 a)
theorem opn52 (w : World) : Opn Tryz.prog w 52 P.k52 gok52 :=
  Opn.iso _ (fun y => ⟨y.1, y.2.1, y.2.2.1, y.2.2.2.1, y.2.2.2.2⟩) (fun _ => rfl) (Opn.struct Tryz.underlying52 (OpnF.cons _ rfl (by kernel_rfl) rfl (Opn.string Tryz.underlying9) (OpnF.cons _ rfl (by kernel_rfl) rfl (Opn.string Tryz.underlying9) (OpnF.cons _ rfl (by kernel_rfl) rfl (Opn.slice Tryz.underlying29 (by kernel_rfl) (Opn.string Tryz.underlying9)) (OpnF.cons _ rfl (by kernel_rfl) rfl (Opn.string Tryz.underlying9) (OpnF.last _ rfl rfl (by kernel_rfl) (Opn.slice Tryz.underlying35 (by kernel_rfl) (opn70 w))))))))
theorem env {W : World} (h : W.ShapedOpen Tryz.prog) : EnvW W :=
  ⟨Go.Proofs.cell_of_shapedOpen_int (zero := #[.int .i64 0]) (t := 3) h (of_decide_eq_true (by kernel_rfl)) (by kernel_rfl) rfl (by kernel_rfl) (by kernel_rfl) Tryz.underlying3⟩
theorem contract (H : Type) (enc : TypeId × Value → H) (W : World) (base : Nat) (args : Array Value) (ds gs : List (DataW H)) (before : List MemPlace)
    (hval0 : ∀ (j : Nat) t v, Tryz.f3.params[j]? = some t → args[j]? = some v → Value.okWide Tryz.prog W .any base t v)
    (hW : DataW.Whole enc Tryz.prog Tryz.f3.params.toList Rows.fnExactOptimiseSpec.vars false W args.toList ds gs before) (hS : W.ShapedOpen Tryz.prog) :
    Calls Tryz.prog 3 args W fun e W' => ∃ v, e = .returned v ∧ Rows.fnExactOptimiseSpec.post enc Tryz.prog Tryz.f3 false true false false W args v W' := by
  have hval := hval0
  have hW' := hW
  obtain ⟨p, q, hA0, hV, rfl, hfz, hnd⟩ := hW
  have hA : DataW.TrodAll enc Tryz.prog W 0 (fun _ => true) true Tryz.f3.params.toList args.toList ds p := hA0
  rw [Tryz.params3] at hA hval
  obtain ⟨v0, vs0, d0, ds0, p0, q0, hargs, rfl, rfl, h0, r0⟩ := trodAll_cons hA
  obtain ⟨rfl, rfl, rfl⟩ := trodAll_nil r0
  obtain rfl : args = #[v0] := by cases args; simp_all
  obtain ⟨rfl, rfl⟩ := trodVars_none hV
  have k0 := h0
  have lt0 : ∀ x ∈ p0, x.block < W.heap.size := by obtain ⟨m, hm⟩ := k0; exact DataW.trod_lt m _ _ _ hm
  obtain ⟨l0, A0, c0, rfl, hc0, hr0, hl0, hg0⟩ := Opn.argSlice Tryz.underlying22 (by kernel_rfl) (opn52 W) (hval 0 22 v0 rfl rfl) h0
  clear hA0 hval0
  obtain ⟨k, hk⟩ := P.FnExactOptimise_pure l0 (P.fitsS_of l0 hl0 hg0)
  refine (P.laws_FnExactOptimise.calls k A0 c0 l0 true W (env hS) hr0 hc0 hk).mono fun e W' ⟨he, bel⟩ => ?_
  subst he
  exact ⟨_, rfl, _, _, _, [], _, [], hW', trodAll_mk1 (shut_bool Tryz.underlying4 _), (trodAll_cons_mk (Below.trod laidOut (by kernel_rfl) (of_decide_eq_true (by kernel_rfl)) k0 bel lt0) trodAll_mk0), rfl, bel.frame _, fun h => by cases h⟩
noncomputable def laidWorld (os : Os) : World :=
  { World.holding Tryz.prog os ⟨#[], #[], []⟩ with heap := (Array.modify (Array.modify (World.holding Tryz.prog os ⟨#[], #[], []⟩).heap 2 (fun o => match o with
      | .cells _ t frozen => .cells #[(.int .u8 128), (.int .u8 191), (.int .u8 160), (.int .u8 191), (.int .u8 128), (.int .u8 159), (.int .u8 144), (.int .u8 191), (.int .u8 128), (.int .u8 143), (.int .u8 0), (.int .u8 0), (.int .u8 0), (.int .u8 0), (.int .u8 0), (.int .u8 0), (.int .u8 0), (.int .u8 0), (.int .u8 0), (.int .u8 0), (.int .u8 0), (.int .u8 0), (.int .u8 0), (.int .u8 0), (.int .u8 0), (.int .u8 0), (.int .u8 0), (.int .u8 0), (.int .u8 0), (.int .u8 0), (.int .u8 0), (.int .u8 0)] t frozen
      | o => o)) 1 (fun o => match o with
      | .cells _ t frozen => .cells (Pinned.utf8FirstZ.map fun (n : Nat) => Value.int .u8 n).toArray t frozen
      | o => o)) }
theorem laid_met (os : Os) : laidMet Tryz.prog Rows.fnExactOptimiseRow.laid ((laidWorld os).forCall (fun _ _ => 0) ⟨#[], #[.slice none 0 0], []⟩).memory :=
  laidMet_of_run' 8 (by kernel_rfl) (by kernel_rfl)
theorem reads (os : Os) {H : Type} (enc : TypeId × Value → H) : ∃ places, DataW.whole enc Tryz.prog ((laidWorld os).forCall (fun _ _ => 0) ⟨#[], #[.slice none 0 0], []⟩).memory Tryz.f3.params.toList Rows.fnExactOptimiseSpec.vars false (#[.slice none 0 0] : Array Value).toList 8 = some ([.nil], [], places) :=
  ⟨[], by kernel_rfl⟩
theorem lifted (os : Os) (started : os.Started) (H : Type) (enc : TypeId × Value → H) (F : Stop.Interp) :
    ReturnsInHanded {} Tryz.checked os 3 .any ((OpenSpec.ofChange Rows.fnExactOptimiseSpec).preRow enc Tryz.prog Tryz.f3 Rows.fnExactOptimiseRow.domain false Rows.fnExactOptimiseRow.laid) (((OpenSpec.ofChange Rows.fnExactOptimiseSpec).at F).post enc Tryz.prog Tryz.f3 false true false false) := by
  obtain ⟨places, hx⟩ := reads os enc
  refine returnsInHanded_of_row (C := Tryz.checked) (s := OpenSpec.ofChange Rows.fnExactOptimiseSpec) own started (by kernel_rfl) Tryz.func3
    (witness_row_at (enc := enc) (C := Tryz.checked) false (laidWorld os) #[.slice none 0 0] rfl (by kernel_rfl) (by kernel_rfl) (by kernel_rfl)
      (OpenSpec.preRow_of_cond 8 hx (by kernel_rfl) (fun k hk => by cases hk) (by kernel_rfl) (laid_met os))) ?_
  intro W base args ds gs before hval hW _ _ _ hL hS _
  exact contract H enc W base args ds gs before hval hW hS
theorem said : Rows.FnExactOptimiseSaid :=
  OpenClaim.holds_of_cond 3 Tryz.f3 rfl rfl rfl rfl rfl rfl rfl ⟨rfl, rfl, rfl, rfl, rfl⟩ rfl rfl rfl rfl rfl (by kernel_rfl) Tryz.func3 (by kernel_rfl)
    (of_decide_eq_true (by kernel_rfl)) (by unfold Func.isWrapper; first | (rw [if_pos (by decide +kernel)]; kernel_rfl) | (rw [if_neg (by decide +kernel)]; exact ⟨rfl, rfl⟩))
    (fun os started H enc _ F => by rw [OpenClaim.pre_eq_preRow]; exact lifted os started H enc F)
theorem plain (f : FuncId) (fn : Func) (hf : Tryz.pinned.checked.prog.funcNamed "loop.example/g00023/laws.FnExactOptimise" = some f) (hfn : Tryz.pinned.checked.prog.funcs[f]? = some fn) :
    false = Tryz.pinned.checked.prog.looks [] ∧ ∀ (j : Nat) t, fn.params[j]? = some t → Tryz.pinned.checked.prog.wantsStandIn t = false := by
  obtain rfl : f = 3 := Option.some.inj ((show Tryz.prog.funcNamed "loop.example/g00023/laws.FnExactOptimise" = some 3 by kernel_rfl).symm.trans hf) |>.symm
  obtain rfl : fn = Tryz.f3 := (Option.some.inj (Tryz.func3.symm.trans hfn)).symm
  refine ⟨by kernel_rfl, fun j t ht => ?_⟩
  rw [Tryz.params3] at ht
  have hm := Array.mem_of_getElem? ht
  simp only [List.mem_toArray, List.mem_cons, List.not_mem_nil, or_false] at hm
  rcases hm with rfl
  · exact (show Tryz.prog.wantsStandIn 22 = false by kernel_rfl)
theorem card : Rows.FnExactOptimiseCardSaid :=
  Claim7.holds_tied_plain_at .later [] _ _ _ _ said (fun _ h => by cases h) (by kernel_rfl) (fun _ h => by cases h) fnExactOptimise_row_tie rfl ⟨rfl, rfl⟩ (by kernel_rfl) rfl plain (by kernel_rfl)
#print axioms card
end Go.Proofs.YtikjbfjnbhaljaaGreatDoor.fnExactOptimise
namespace Go.Proofs.YtikjbfjnbhaljaaGreatDoor
/-- The card, under a short name, for the claim. -/
theorem fnExactOptimise_card : Rows.FnExactOptimiseCardSaid := fnExactOptimise.card
end Go.Proofs.YtikjbfjnbhaljaaGreatDoor
end
