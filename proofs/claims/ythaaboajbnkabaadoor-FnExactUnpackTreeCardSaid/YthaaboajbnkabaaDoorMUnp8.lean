/- FnExactUnpackTree: the law's row and its card: its walk, the law over lists, and what the arguments read as, joined. Whatever the arguments: the call returns true, and the arguments read as before. Condition: the listed tables hold what the program's text lays (the card ties that). -/
import Derived.Test.YthaaboajbnkabaaDoorMUnp2
import Derived.Test.YthaaboajbnkabaaDoorMUnp3
import Derived.Test.YthaaboajbnkabaaDoorMUnp4
import Derived.Test.YthaaboajbnkabaaDoorMUnp5
import Derived.Test.YthaaboajbnkabaaDoorMUnp6
import Derived.Test.YthaaboajbnkabaaDoorMUnp7
import Derived.Test.YthaaboajbnkabaaDoorCards
import Derived.Test.YthaaboajbnkabaaDoorTie
import Derived.WalkKit
import Derived.ProofKit
import Derived.OpenShut
import Derived.ShutString
import Derived.ChangeOld
import Derived.Below
import Derived.Carry
import Derived.Deep.DeepHandedRow
import Derived.Shelf.Vars
import Derived.LaidLaws

section
set_option linter.unusedVariables false
set_option linter.unusedSimpArgs false
namespace Go.Proofs.YthaaboajbnkabaaDoor.P
open Go.RowKit Go.Proofs.YthaaboajbnkabaaDoorW.PrintWords
theorem wrap64_id {n : Int} (h1 : -9223372036854775808 ≤ n) (h2 : n ≤ 9223372036854775807) : wrap64 n = n := by
  unfold wrap64; omega
theorem wrap32_id {n : Int} (h1 : -2147483648 ≤ n) (h2 : n ≤ 2147483647) : wrap32 n = n := by
  unfold wrap32; omega
def bs (s : ByteArray) : List UInt8 := s.data.toList
theorem bs_length (s : ByteArray) : (bs s).length = s.size := data_length s
theorem toList_bs (s : ByteArray) : s.toList = bs s := Lib.toList_data s
theorem bs_inj {a b : ByteArray} (h : bs a = bs b) : a = b := by
  cases a; cases b
  simp only [bs] at h
  congr 1
  exact Array.ext' h
theorem bt_nat (s : ByteArray) (i : Nat) (h : i < s.size) : bt s (i : Int) = (((bs s)[i]'(by rw [bs_length]; exact h)).toNat : Int) := by
  unfold bt
  rw [dif_pos (by simpa using h)]
  simp [bs, ByteArray.getElem_eq_getElem_data]
theorem bs_nil {s : ByteArray} : bs s = [] ↔ s.size = 0 := by
  rw [← bs_length]
  exact List.length_eq_zero_iff.symm
theorem bs_extract (s : ByteArray) (a b : Nat) : bs (s.extract a b) = ((bs s).drop a).take (b - a) := Lib.extract_data s a b
theorem bs_upto (s : ByteArray) (b : Nat) : bs (s.extract 0 b) = (bs s).take b := by rw [bs_extract]; simp
end Go.Proofs.YthaaboajbnkabaaDoor.P
end

section
set_option linter.unusedVariables false
set_option linter.unusedSimpArgs false
namespace Go.Proofs.YthaaboajbnkabaaDoor.P
open Go.RowKit Go.Proofs.YthaaboajbnkabaaDoorW.PrintWords
def isL (c : Int) : Bool := decide ((97 ≤ c ∧ c ≤ 122) ∨ (65 ≤ c ∧ c ≤ 90))
def isD (c : Int) : Bool := decide (48 ≤ c ∧ c ≤ 57)
def okC (c : Int) : Bool := isL c || (isD c || decide (c = 45 ∨ c = 95 ∨ c = 46 ∨ c = 43))
theorem impl_letter_eq (c : Int) : impl_letter.f c = some (isL c) := by
  unfold impl_letter.f isL
  repeat' split
  all_goals (congr 1; first | (rw [decide_eq_decide]; omega) | (symm; rw [decide_eq_true_iff]; omega) | (symm; rw [decide_eq_false_iff_not]; omega))
theorem impl_digit_eq (c : Int) : impl_digit.f c = some (isD c) := by
  unfold impl_digit.f isD
  repeat' split
  all_goals (congr 1; first | (rw [decide_eq_decide]; omega) | (symm; rw [decide_eq_true_iff]; omega) | (symm; rw [decide_eq_false_iff_not]; omega))
theorem spec_l1Letter_eq (c : Int) : spec_l1Letter.f c = some (isL c) := by
  unfold spec_l1Letter.f isL
  repeat' split
  all_goals (congr 1; first | (rw [decide_eq_decide]; omega) | (symm; rw [decide_eq_true_iff]; omega) | (symm; rw [decide_eq_false_iff_not]; omega))
theorem spec_l1Digit_eq (c : Int) : spec_l1Digit.f c = some (isD c) := by
  unfold spec_l1Digit.f isD
  repeat' split
  all_goals (congr 1; first | (rw [decide_eq_decide]; omega) | (symm; rw [decide_eq_true_iff]; omega) | (symm; rw [decide_eq_false_iff_not]; omega))
def okFrom (s : ByteArray) : Nat → Nat → Bool
  | 0, _ => true
  | n + 1, i => okC (bt s i) && okFrom s n (i + 1)
def nameOk (s : ByteArray) : Bool := decide (1 ≤ s.size) && decide (s.size ≤ 60) && (bt s 0 != 46) && okFrom s s.size 0
theorem impl_NameOk_l0 (s : ByteArray) (hs : s.size ≤ 60) : ∀ n k i : Nat, n + 1 ≤ k → i + n = s.size → impl_NameOk.l0 k s (s.size : Int) (i : Int) = some (okFrom s n i) := by
  intro n
  induction n with
  | zero =>
    intro k i hk hi
    obtain ⟨k, rfl⟩ : ∃ k', k = k' + 1 := ⟨k - 1, by omega⟩
    rw [impl_NameOk.l0, if_neg (by omega), okFrom]
  | succ n ih =>
    intro k i hk hi
    obtain ⟨k, rfl⟩ : ∃ k', k = k' + 1 := ⟨k - 1, by omega⟩
    have hw : wrap64 ((i : Int) + 1) = ((i + 1 : Nat) : Int) := by rw [wrap64_id (by omega) (by omega)]; omega
    have hr := bt_range s (i : Int)
    have ihn := ih k (i + 1) (by omega) (by omega)
    rw [impl_NameOk.l0, if_pos (by omega), if_pos (by omega), if_pos (by omega), hw, okFrom, wrap32_id (by omega) (by omega)]
    have he : (⟨#[45, 95, 46, 43]⟩ : ByteArray).data.toList = [45, 95, 46, 43] := rfl
    have hcr : strings_ContainsRune.f (⟨#[45, 95, 46, 43]⟩ : ByteArray) (bt s (i : Int)) = some (decide (bt s (i : Int) = 45 ∨ bt s (i : Int) = 95 ∨ bt s (i : Int) = 46 ∨ bt s (i : Int) = 43)) := by
      unfold strings_ContainsRune.f
      rw [if_pos he, if_pos (by omega), if_pos (by omega)]
    rw [impl_letter_eq, impl_digit_eq, hcr, ihn, okC]
    simp only [Option.bind_some]
    cases isL (bt s (i : Int)) <;> cases isD (bt s (i : Int)) <;> cases decide (bt s (i : Int) = 45 ∨ bt s (i : Int) = 95 ∨ bt s (i : Int) = 46 ∨ bt s (i : Int) = 43) <;> simp
theorem impl_NameOk_eq (s : ByteArray) (k : Nat) (hk : 63 ≤ k) : impl_NameOk.f k s = some (nameOk s) := by
  obtain ⟨k, rfl⟩ : ∃ k', k = k' + 1 := ⟨k - 1, by omega⟩
  unfold impl_NameOk.f nameOk
  by_cases h1 : s.size < 1
  · rw [if_pos (by omega), impl_NameOk.j0]
    simp; omega
  · rw [if_neg (by omega)]
    by_cases h2 : s.size > 60
    · rw [if_pos (by omega), impl_NameOk.j0]
      simp; omega
    · rw [if_neg (by omega), if_pos (by omega), impl_NameOk.j0]
      have := impl_NameOk_l0 s (by omega) s.size k 0 (by omega) (by omega)
      rw [show ((0 : Nat) : Int) = 0 from rfl] at this
      rw [this]
      by_cases h3 : bt s 0 = 46
      · simp [h3]
      · have h4 : (bt s 0 == 46) = false := by simpa using h3
        simp [h3, h4, show 1 ≤ s.size by omega, show s.size ≤ 60 by omega]
theorem spec_NameOk_l0 (s : ByteArray) (hs : s.size ≤ 60) : ∀ n k i : Nat, n + 1 ≤ k → i + n = s.size → spec_NameOk.l0 k s (i : Int) = some (okFrom s n i) := by
  intro n
  induction n with
  | zero =>
    intro k i hk hi
    obtain ⟨k, rfl⟩ : ∃ k', k = k' + 1 := ⟨k - 1, by omega⟩
    rw [spec_NameOk.l0, if_neg (by omega), okFrom]
  | succ n ih =>
    intro k i hk hi
    obtain ⟨k, rfl⟩ : ∃ k', k = k' + 1 := ⟨k - 1, by omega⟩
    have hw : wrap64 ((i : Int) + 1) = ((i + 1 : Nat) : Int) := by rw [wrap64_id (by omega) (by omega)]; omega
    have hr := bt_range s (i : Int)
    have ihn := ih k (i + 1) (by omega) (by omega)
    rw [spec_NameOk.l0, if_pos (by omega), if_pos (by omega), hw, okFrom]
    rw [spec_l1Letter_eq, spec_l1Digit_eq, ihn, okC]
    simp only [Option.bind_some]
    generalize bt s (i : Int) = c
    cases isL c <;> cases isD c <;> by_cases h7 : c = 45 <;> by_cases h8 : c = 95 <;> by_cases h9 : c = 46 <;> by_cases h10 : c = 43 <;> simp [h7, h8, h9, h10]
theorem spec_NameOk_eq (s : ByteArray) (k : Nat) (hk : 63 ≤ k) : spec_NameOk.f k s = some (nameOk s) := by
  obtain ⟨k, rfl⟩ : ∃ k', k = k' + 1 := ⟨k - 1, by omega⟩
  unfold spec_NameOk.f nameOk
  by_cases h1 : s.size < 1
  · rw [if_pos (by omega), spec_NameOk.j0]
    simp; omega
  · rw [if_neg (by omega)]
    by_cases h2 : s.size > 60
    · rw [if_pos (by omega), spec_NameOk.j0]
      simp; omega
    · rw [if_neg (by omega), if_pos (by omega), spec_NameOk.j0]
      have := spec_NameOk_l0 s (by omega) s.size k 0 (by omega) (by omega)
      rw [show ((0 : Nat) : Int) = 0 from rfl] at this
      rw [this]
      by_cases h3 : bt s 0 = 46
      · simp [h3]
      · have h4 : (bt s 0 == 46) = false := by simpa using h3
        simp [h3, h4, show 1 ≤ s.size by omega, show s.size ≤ 60 by omega]
end Go.Proofs.YthaaboajbnkabaaDoor.P
end

section
set_option linter.unusedVariables false
set_option linter.unusedSimpArgs false
namespace Go.Proofs.YthaaboajbnkabaaDoor.P
open Go.RowKit Go.Proofs.YthaaboajbnkabaaDoorW.PrintWords
def pcs : List UInt8 → List UInt8 → List (List UInt8)
  | cur, [] => [cur]
  | cur, c :: r => if c = 47 then cur :: pcs [] r else pcs (cur ++ [c]) r
theorem index_cons (b : UInt8) (l : List UInt8) : Lib.index (b :: l) [47] = if b = 47 then 0 else if Lib.index l [47] = -1 then -1 else Lib.index l [47] + 1 := by
  rw [Lib.index]
  by_cases hb : b = 47
  · subst hb; simp [List.isPrefixOf]
  · have : ((47 : UInt8) == b) = false := by simpa using fun e => hb e.symm
    simp [List.isPrefixOf, this, hb]
theorem pcs_miss : ∀ (l cur : List UInt8), Lib.index l [47] = -1 → pcs cur l = [cur ++ l]
  | [], cur, _ => by simp [pcs]
  | b :: l, cur, h => by
    rw [index_cons] at h
    by_cases hb : b = 47
    · rw [if_pos hb] at h; omega
    · rw [if_neg hb] at h
      by_cases hi : Lib.index l [47] = -1
      · rw [pcs, if_neg hb, pcs_miss l _ hi]; simp
      · rw [if_neg hi] at h
        have := Lib.index_ge l [47]
        omega
theorem pcs_hit : ∀ (l cur : List UInt8) (i : Nat), Lib.index l [47] = i → pcs cur l = (cur ++ l.take i) :: pcs [] (l.drop (i + 1))
  | [], cur, i, h => by simp [Lib.index] at h
  | b :: l, cur, i, h => by
    rw [index_cons] at h
    by_cases hb : b = 47
    · rw [if_pos hb] at h
      obtain rfl : i = 0 := by omega
      rw [pcs, if_pos hb]
      simp
    · rw [if_neg hb] at h
      by_cases hi : Lib.index l [47] = -1
      · rw [if_pos hi] at h; omega
      · rw [if_neg hi] at h
        have := Lib.index_ge l [47]
        obtain ⟨j, rfl⟩ : ∃ j, i = j + 1 := ⟨i - 1, by omega⟩
        rw [pcs, if_neg hb, pcs_hit l _ j (by omega)]
        simp
theorem splitK_pcs : ∀ (k : Nat) (l : List UInt8), Lib.count l [47] = k → Lib.splitK [47] 0 k l = pcs [] l
  | 0, l, h => by
    have hi : Lib.index l [47] = -1 := by
      rcases Lib.index_spec l [47] with ⟨h1, _⟩ | ⟨i, h1, _⟩
      · exact h1
      · rw [Lib.count_hit (by simp) h1] at h; omega
    rw [pcs_miss l [] hi, Lib.splitK]; rfl
  | k + 1, l, h => by
    rcases Lib.index_spec l [47] with ⟨h1, _⟩ | ⟨i, h1, _⟩
    · rw [Lib.count_miss h1] at h; omega
    · have h2 := Lib.count_hit (s := l) (sub := [47]) (by simp) h1
      rw [Lib.splitK, if_neg (by simp [h1]), pcs_hit l [] i h1, h1]
      simp only [Int.toNat_natCast, Nat.add_zero, List.nil_append]
      rw [splitK_pcs k _ (by simp at h2 ⊢; omega)]
      rfl
def nameOkL (l : List UInt8) : Bool := nameOk ⟨l.toArray⟩
theorem nameOkL_bs (s : ByteArray) : nameOkL (bs s) = nameOk s := by
  unfold nameOkL bs
  simp
def pathOk (s : ByteArray) : Bool := decide ((pcs [] (bs s)).length ≤ 8) && (pcs [] (bs s)).all nameOkL
theorem impl_pathOk_l0 (xs : List ByteArray) (hx : xs.length ≤ 8) : ∀ n k i : Nat, n + 64 ≤ k → i + n = xs.length → impl_pathOk.l0 k xs (xs.length : Int) (i : Int) = some ((xs.drop i).all nameOk) := by
  intro n
  induction n with
  | zero =>
    intro k i hk hi
    obtain ⟨k, rfl⟩ : ∃ k', k = k' + 1 := ⟨k - 1, by omega⟩
    rw [impl_pathOk.l0, if_neg (by omega), List.drop_eq_nil_of_le (by omega)]; rfl
  | succ n ih =>
    intro k i hk hi
    obtain ⟨k, rfl⟩ : ∃ k', k = k' + 1 := ⟨k - 1, by omega⟩
    have hw : wrap64 ((i : Int) + 1) = ((i + 1 : Nat) : Int) := by rw [wrap64_id (by omega) (by omega)]; omega
    have hl : i < xs.length := by omega
    rw [impl_pathOk.l0, if_pos (by omega), if_pos (by omega), if_pos (by omega), hw, impl_NameOk_eq _ _ (by omega), ih k (i + 1) (by omega) (by omega), List.drop_eq_getElem_cons hl]
    have hr : rdOf ByteArray.empty xs (i : Int) = xs[i] := by simp [rdOf, List.getD_eq_getElem?_getD, List.getElem?_eq_getElem hl]
    rw [hr, Option.bind_some, List.all_cons]
    cases nameOk xs[i] <;> simp
theorem impl_pathOk_eq (s : ByteArray) (hs : s.size < 1073741824) (k : Nat) (hk : 80 ≤ k) : impl_pathOk.f k s = some (pathOk s) := by
  unfold impl_pathOk.f strings_Split.f
  have h1 : (⟨#[47]⟩ : ByteArray).size = 1 := rfl
  rw [if_pos (by omega), if_pos (by rw [h1]; omega), Option.bind_some]
  have hm := Lib.splitB_data (⟨#[47]⟩ : ByteArray) 0 (Lib.countB s (⟨#[47]⟩ : ByteArray)) s
  have hk2 : Lib.splitK [47] 0 (Lib.countB s (⟨#[47]⟩ : ByteArray)) s.data.toList = pcs [] (bs s) := splitK_pcs _ _ rfl
  change List.map bs _ = Lib.splitK [47] 0 _ _ at hm
  rw [hk2] at hm
  generalize Lib.splitB (⟨#[47]⟩ : ByteArray) 0 (Lib.countB s (⟨#[47]⟩ : ByteArray)) s = xs at hm ⊢
  unfold pathOk
  rw [← hm]
  have ha : (xs.map bs).all nameOkL = xs.all nameOk := by
    simp only [List.all_map, Function.comp_def, nameOkL_bs]
  rw [ha, List.length_map]
  by_cases h8 : xs.length ≤ 8
  · rw [if_neg (by omega)]
    have := impl_pathOk_l0 xs h8 xs.length k 0 (by omega) (by omega)
    rw [show ((0 : Nat) : Int) = 0 from rfl] at this
    rw [this]
    simp [h8]
  · rw [if_pos (by omega)]
    simp [h8]
theorem spec_l10Names_l0 (s : ByteArray) (hs : s.size < 1073741824) : ∀ (n k fr i : Nat) (out : List ByteArray), 2 * n + 70 ≤ k → i + n = s.size → fr ≤ i → out.length ≤ 8 →
    ∃ o, spec_l10Names.l0 k s out (fr : Int) (i : Int) = some (o, decide (out.length + (pcs (bs (s.extract fr i)) ((bs s).drop i)).length ≤ 8) && (pcs (bs (s.extract fr i)) ((bs s).drop i)).all nameOkL) := by
  intro n
  induction n with
  | zero =>
    intro k fr i out hk hi hf ho
    obtain ⟨k, rfl⟩ : ∃ k', k = k' + 3 := ⟨k - 3, by omega⟩
    have hw : wrap64 ((i : Int) + 1) = ((i + 1 : Nat) : Int) := by rw [wrap64_id (by omega) (by omega)]; omega
    have hd : (bs s).drop i = [] := List.drop_eq_nil_of_le (by rw [bs_length]; omega)
    rw [spec_l10Names.l0, if_pos (by omega), if_pos (by omega), spec_l10Names.j1, if_pos rfl, if_pos (by omega), if_pos (by omega), if_pos (by omega), spec_NameOk_eq _ _ (by omega), hd, pcs, Option.bind_some, hw]
    simp only [Int.toNat_natCast]
    rw [List.all_cons, nameOkL_bs]
    cases hn : nameOk (s.extract fr i) with
    | false => exact ⟨out, by simp⟩
    | true =>
      rw [if_pos rfl]
      by_cases h8 : out.length = 8
      · rw [if_pos (by omega)]
        exact ⟨out, by simp; omega⟩
      · rw [if_neg (by omega), if_pos (by omega)]
        rw [spec_l10Names.l0, if_neg (by omega)]
        exact ⟨out ++ [s.extract fr i], by simp; omega⟩
  | succ n ih =>
    intro k fr i out hk hi hf ho
    obtain ⟨k, rfl⟩ : ∃ k', k = k' + 2 := ⟨k - 2, by omega⟩
    have hw : wrap64 ((i : Int) + 1) = ((i + 1 : Nat) : Int) := by rw [wrap64_id (by omega) (by omega)]; omega
    have hl : i < (bs s).length := by rw [bs_length]; omega
    have hd : (bs s).drop i = (bs s)[i] :: (bs s).drop (i + 1) := List.drop_eq_getElem_cons hl
    have hb := bt_nat s i (by omega)
    rw [spec_l10Names.l0, if_pos (by omega), if_neg (by omega), if_pos (by omega), if_pos (by omega), spec_l10Names.j1, hd, pcs, hw, hb]
    by_cases hc : (bs s)[i] = 47
    · have hc2 : ((((bs s)[i].toNat : Int) == 47)) = true := by rw [hc]; rfl
      rw [hc2, if_pos rfl, if_pos hc, if_pos (by omega), if_pos (by omega), if_pos (by omega), spec_NameOk_eq _ _ (by omega), Option.bind_some]
      simp only [Int.toNat_natCast]
      rw [List.all_cons, nameOkL_bs]
      cases hn : nameOk (s.extract fr i) with
      | false => exact ⟨out, by simp⟩
      | true =>
        rw [if_pos rfl]
        have hp : 1 ≤ (pcs [] ((bs s).drop (i + 1))).length := by
          generalize (bs s).drop (i + 1) = l
          generalize ([] : List UInt8) = c
          induction l generalizing c with
          | nil => simp [pcs]
          | cons b l ih => rw [pcs]; split <;> simp_all
        by_cases h8 : out.length = 8
        · rw [if_pos (by omega)]
          exact ⟨out, by simp; omega⟩
        · rw [if_neg (by omega), if_pos (by omega)]
          obtain ⟨o, h⟩ := ih k (i + 1) (i + 1) (out ++ [s.extract fr i]) (by omega) (by omega) (by omega) (by simp; omega)
          have he : bs (s.extract (i + 1) (i + 1)) = [] := by rw [bs_extract]; simp
          rw [he] at h
          refine ⟨o, ?_⟩
          rw [h]
          simp only [List.length_append, List.length_cons, List.length_nil, Bool.true_and]
          congr 3
          apply decide_eq_decide.2
          omega
    · have hc2 : ((((bs s)[i].toNat : Int) == 47)) = false := by
        rw [beq_eq_false_iff_ne]
        intro h
        exact hc (UInt8.toNat_inj.mp (by show _ = 47; omega))
      rw [hc2, if_neg (by decide), if_neg hc]
      obtain ⟨o, h⟩ := ih k fr (i + 1) out (by omega) (by omega) (by omega) ho
      have he : bs (s.extract fr (i + 1)) = bs (s.extract fr i) ++ [(bs s)[i]] := by
        rw [bs_extract, bs_extract, show i + 1 - fr = (i - fr) + 1 by omega, List.take_add_one]
        congr 1
        rw [List.getElem?_drop, show fr + (i - fr) = i by omega, List.getElem?_eq_getElem hl]
        rfl
      rw [he] at h
      exact ⟨o, h⟩
theorem spec_l10Names_eq (s : ByteArray) (hs : s.size < 1073741824) (k : Nat) (hk : 2 * s.size + 70 ≤ k) : ∃ o, spec_l10Names.f k s = some (o, pathOk s) := by
  obtain ⟨o, h⟩ := spec_l10Names_l0 s hs s.size k 0 0 [] hk (by omega) (by omega) (by simp)
  have he : bs (s.extract 0 0) = [] := by rw [bs_extract]; simp
  rw [he] at h
  refine ⟨o, ?_⟩
  unfold spec_l10Names.f pathOk
  simpa using h
def upOf (s : ByteArray) : ByteArray × Bool := if Lib.lastIndexByte s 47 < 0 then (⟨#[]⟩, false) else (s.extract 0 (Lib.lastIndexByte s 47).toNat, true)
theorem impl_upper_eq (s : ByteArray) (hs : s.size < 1073741824) : impl_upper.f s = some (upOf s) := by
  unfold impl_upper.f strings_LastIndexByte.f upOf
  rw [if_pos (by omega), Option.bind_some]
  rcases Lib.lastIndexByte_spec s 47 with ⟨h, _⟩ | ⟨i, hi, h, _⟩
  · rw [h, if_pos (by omega), if_pos (by omega)]
  · rw [h, if_neg (by omega), if_pos (by omega), if_pos (by omega), if_neg (by omega)]
theorem spec_l10Up_l0 (s : ByteArray) (hs : s.size < 1073741824) : ∀ (n k : Nat), n + 1 ≤ k → n ≤ s.size →
    spec_l10Up.l0 k s ((n : Int) - 1) = some (if Lib.lastIdx s 47 n < 0 then ⟨#[]⟩ else s.extract 0 (Lib.lastIdx s 47 n).toNat) := by
  intro n
  induction n with
  | zero =>
    intro k hk hn
    obtain ⟨k, rfl⟩ : ∃ k', k = k' + 1 := ⟨k - 1, by omega⟩
    rw [spec_l10Up.l0, if_neg (by omega), Lib.lastIdx, if_pos (by omega)]
  | succ n ih =>
    intro k hk hn
    obtain ⟨k, rfl⟩ : ∃ k', k = k' + 1 := ⟨k - 1, by omega⟩
    have e1 : ((n + 1 : Nat) : Int) - 1 = (n : Int) := by omega
    have hw : wrap64 ((n : Int) - 1) = (n : Int) - 1 := wrap64_id (by omega) (by omega)
    have hb : bt s (n : Int) = ((s.data[n]!).toNat : Int) := by
      rw [bt_nat s n (by omega)]
      have h2 : n < s.data.size := by show n < s.size; omega
      rw [getElem!_pos s.data n h2]
      simp [bs]
    rw [e1, spec_l10Up.l0, if_pos (by omega), if_pos (by omega), if_pos (by omega), hw, hb]
    by_cases hc : ((s.data[n]!).toNat : Int) = 47
    · rw [Lib.lastIdx_hit s 47 n hc, if_pos hc, if_pos (by omega), if_neg (by omega)]
    · rw [Lib.lastIdx_miss s 47 n hc, if_neg hc, ih k (by omega) (by omega)]
theorem spec_l10Up_eq (s : ByteArray) (hs : s.size < 1073741824) (k : Nat) (hk : s.size + 1 ≤ k) : spec_l10Up.f k s = some (upOf s).1 := by
  unfold spec_l10Up.f upOf
  rw [wrap64_id (by omega) (by omega), spec_l10Up_l0 s hs s.size k hk (Nat.le_refl _)]
  show some (if Lib.lastIndexByte s 47 < 0 then _ else _) = _
  split <;> rfl
theorem upOf_ok (s : ByteArray) (hp : pathOk s = true) (hu : (upOf s).2 = true) : ∃ i : Nat, 0 < i ∧ i < s.size ∧ (upOf s).1 = s.extract 0 i := by
  unfold upOf at hu ⊢
  rcases Lib.lastIndexByte_spec s 47 with ⟨h, _⟩ | ⟨i, hi, h, hc, _⟩
  · rw [h, if_pos (by omega)] at hu
    cases hu
  · rw [h, if_neg (by omega)]
    refine ⟨i, ?_, hi, by simp⟩
    rcases Nat.eq_zero_or_pos i with h0 | h0
    · subst h0
      exfalso
      have hl : 0 < (bs s).length := by rw [bs_length]; omega
      have hd : bs s = (bs s)[0] :: (bs s).drop 1 := by
        have := List.drop_eq_getElem_cons hl
        simpa using this
      have h47 : (bs s)[0] = 47 := by
        have h2 : 0 < s.data.size := hi
        have h3 : s.data[0]! = (bs s)[0] := by rw [getElem!_pos s.data 0 h2]; simp [bs]
        rw [h3] at hc
        exact UInt8.toNat_inj.mp (by show _ = 47; omega)
      unfold pathOk at hp
      rw [hd, h47, pcs, if_pos rfl] at hp
      simp [nameOkL, nameOk] at hp
      exact absurd hp.2.1.1.1.1 (by decide)
    · exact h0
theorem upOf_no (s : ByteArray) (hu : (upOf s).2 = false) : (upOf s).1 = ⟨#[]⟩ := by
  unfold upOf at hu ⊢
  split
  · rfl
  · rename_i h
    rw [if_neg h] at hu
    cases hu
theorem less_begin : ∀ (l : List UInt8) (i : Nat), i < l.length → Op.bytesLess (l.take i) l = true
  | [], i, h => by simp at h
  | b :: l, 0, _ => by simp [Op.bytesLess]
  | b :: l, i + 1, h => by
    rw [List.take_succ_cons, Op.bytesLess, less_begin l i (by simpa using h)]
    simp
end Go.Proofs.YthaaboajbnkabaaDoor.P
end

section
set_option linter.unusedVariables false
set_option linter.unusedSimpArgs false
namespace Go.Proofs.YthaaboajbnkabaaDoor.P
open Go.RowKit Go.Proofs.YthaaboajbnkabaaDoorW.PrintWords Go.Proofs.YthaaboajbnkabaaDoorM
def less (a b : ByteArray) : Bool := Op.bytesLess (bs a) (bs b)
theorem bl_less (a b : ByteArray) : Op.bytesLess a.toList b.toList = less a b := by rw [toList_bs, toList_bs]; rfl
theorem bl_irrefl : ∀ x : List UInt8, Op.bytesLess x x = false
  | [] => by simp [Op.bytesLess]
  | a :: x => by
    rw [Op.bytesLess, bl_irrefl x]
    have : ¬ a < a := fun h => by have := UInt8.lt_iff_toNat_lt.mp h; omega
    simp [this]
theorem bl_trans : ∀ x y z : List UInt8, Op.bytesLess x y = true → Op.bytesLess y z = true → Op.bytesLess x z = true
  | _, [], _, h, _ => by simp [Op.bytesLess] at h
  | _, _ :: _, [], _, h => by simp [Op.bytesLess] at h
  | [], _ :: _, _ :: _, _, _ => by simp [Op.bytesLess]
  | a :: x, b :: y, c :: z, h1, h2 => by
    rw [Op.bytesLess, Bool.or_eq_true, Bool.and_eq_true, decide_eq_true_iff, beq_iff_eq] at h1 h2 ⊢
    rcases h1 with h1 | ⟨rfl, h1⟩
    · rcases h2 with h2 | ⟨rfl, h2⟩
      · exact .inl (UInt8.lt_iff_toNat_lt.mpr (by have := UInt8.lt_iff_toNat_lt.mp h1; have := UInt8.lt_iff_toNat_lt.mp h2; omega))
      · exact .inl h1
    · rcases h2 with h2 | ⟨rfl, h2⟩
      · exact .inl h2
      · exact .inr ⟨rfl, bl_trans x y z h1 h2⟩
theorem less_irrefl (a : ByteArray) : less a a = false := bl_irrefl _
theorem less_trans {a b c : ByteArray} (h1 : less a b = true) (h2 : less b c = true) : less a c = true := bl_trans _ _ _ h1 h2
theorem less_ne {a b : ByteArray} (h : less a b = true) : a ≠ b := fun e => by subst e; rw [less_irrefl] at h; cases h
theorem less_asymm {a b : ByteArray} (h : less a b = true) : less b a = false := by
  cases h2 : less b a with
  | false => rfl
  | true => rw [← less_irrefl a]; exact (less_trans h h2).symm
def gd (t : List S34) (i : Nat) : S34 := t.getD i z34
theorem rd_gd (t : List S34) (i : Nat) : rd_T34 t (i : Int) = gd t i := by simp [rd_T34, gd]
theorem gd_get (t : List S34) (i : Nat) (h : i < t.length) : gd t i = t[i] := by simp [gd, List.getD_eq_getElem?_getD, List.getElem?_eq_getElem h]
theorem gd_mem (t : List S34) (i : Nat) (h : i < t.length) : gd t i ∈ t := by rw [gd_get t i h]; exact List.getElem_mem h
def entryOk (e : S34) : Bool := pathOk e.f0 && (decide (e.f2.size ≤ 20000) && (if e.f1 = 1 then decide (e.f2.size = 0) && !e.f3 else if e.f1 = 2 then true else if e.f1 = 3 then !decide (e.f2.size = 0) && !e.f3 else false))
def risen (t : List S34) (n : Nat) : Prop := ∀ j, 0 < j → j < n → less (gd t (j - 1)).f0 (gd t j).f0 = true
theorem risen_lt {t : List S34} {n : Nat} (h : risen t n) : ∀ d i, i + d + 1 < n → less (gd t i).f0 (gd t (i + d + 1)).f0 = true
  | 0, i, hi => by have := h (i + 1) (by omega) (by omega); simpa using this
  | d + 1, i, hi => less_trans (risen_lt h d i (by omega)) (by have h2 := h (i + d + 1 + 1) (by omega) (by omega); rw [Nat.add_sub_cancel] at h2; exact h2)
theorem risen_less {t : List S34} {n i j : Nat} (h : risen t n) (hij : i < j) (hj : j < n) : less (gd t i).f0 (gd t j).f0 = true := by
  have := risen_lt h (j - i - 1) i (by omega)
  rwa [show i + (j - i - 1) + 1 = j by omega] at this
theorem risen_inj {t : List S34} {n i j : Nat} (h : risen t n) (hi : i < n) (hj : j < n) (he : (gd t i).f0 = (gd t j).f0) : i = j := by
  rcases Nat.lt_trichotomy i j with hl | hl | hl
  · exact absurd he (less_ne (risen_less h hl hj))
  · exact hl
  · exact absurd he.symm (less_ne (risen_less h hl hi))
theorem spec_l10Find_l0 (t : List S34) (p : ByteArray) (ht : t.length < 1073741824) (hr : risen t t.length) : ∀ (n k lo hi : Nat), n + 2 ≤ k → hi - lo ≤ n → lo ≤ hi → hi ≤ t.length →
    (∀ i, i < lo → less (gd t i).f0 p = true) → (∀ i, hi ≤ i → i < t.length → less (gd t i).f0 p = false) →
    ∃ r, spec_l10Find.l0 k t p (lo : Int) (hi : Int) = some r ∧ ((∃ i : Nat, r = i ∧ i < t.length ∧ (gd t i).f0 = p) ∨ (r = -1 ∧ ∀ i, i < t.length → (gd t i).f0 ≠ p)) := by
  intro n
  induction n with
  | zero =>
    intro k lo hi hk hn hl hh h1 h2
    obtain ⟨k, rfl⟩ : ∃ k', k = k' + 1 := ⟨k - 1, by omega⟩
    obtain rfl : lo = hi := by omega
    rw [spec_l10Find.l0, if_neg (by omega), rd_gd]
    by_cases hlt : lo < t.length
    · rw [if_pos (by omega), if_pos (by omega)]
      by_cases he : (gd t lo).f0 = p
      · rw [if_pos (by rw [he])]
        exact ⟨_, rfl, .inl ⟨lo, rfl, hlt, he⟩⟩
      · rw [if_neg (fun h => he (bs_inj (by rw [← toList_bs, ← toList_bs]; exact h)))]
        refine ⟨_, rfl, .inr ⟨rfl, fun i hi e => ?_⟩⟩
        rcases Nat.lt_trichotomy i lo with hc | hc | hc
        · exact absurd e (less_ne (h1 i hc))
        · subst hc; exact he e
        · have h3 := risen_less hr hc hi
          rw [e] at h3
          rw [h2 lo (Nat.le_refl _) hlt] at h3
          cases h3
    · rw [if_neg (by omega)]
      exact ⟨_, rfl, .inr ⟨rfl, fun i hi e => absurd e (less_ne (h1 i (by omega)))⟩⟩
  | succ n ih =>
    intro k lo hi hk hn hl hh h1 h2
    by_cases hlo : lo = hi
    · exact ih k lo hi (by omega) (by omega) hl hh h1 h2
    obtain ⟨k, rfl⟩ : ∃ k', k = k' + 1 := ⟨k - 1, by omega⟩
    have hm : wrap64 (Int.tdiv (wrap64 ((lo : Int) + (hi : Int))) 2) = (((lo + hi) / 2 : Nat) : Int) := by
      rw [wrap64_id (n := (lo : Int) + (hi : Int)) (by omega) (by omega), Int.tdiv_eq_ediv_of_nonneg (by omega), wrap64_id (by omega) (by omega)]
      omega
    have hw : wrap64 ((((lo + hi) / 2 : Nat) : Int) + 1) = (((lo + hi) / 2 + 1 : Nat) : Int) := by rw [wrap64_id (by omega) (by omega)]; omega
    rw [spec_l10Find.l0, if_pos (by omega), hm, if_pos (by omega), if_pos (by omega), rd_gd, hw, bl_less]
    by_cases hc : less (gd t ((lo + hi) / 2)).f0 p = true
    · rw [if_pos hc]
      refine ih k _ hi (by omega) (by omega) (by omega) hh (fun i hi2 => ?_) h2
      rcases Nat.lt_or_ge i ((lo + hi) / 2) with h3 | h3
      · exact less_trans (risen_less hr h3 (by omega)) hc
      · obtain rfl : i = (lo + hi) / 2 := by omega
        exact hc
    · rw [if_neg hc]
      refine ih k lo _ (by omega) (by omega) (by omega) (by omega) h1 (fun i hi2 hi3 => ?_)
      have hc2 : less (gd t ((lo + hi) / 2)).f0 p = false := by simpa using hc
      rcases Nat.lt_or_ge ((lo + hi) / 2) i with h3 | h3
      · cases h4 : less (gd t i).f0 p with
        | false => rfl
        | true => rw [← hc2]; exact (less_trans (risen_less hr h3 hi3) h4).symm
      · obtain rfl : i = (lo + hi) / 2 := by omega
        exact hc2
theorem spec_l10Find_eq (t : List S34) (p : ByteArray) (ht : t.length < 1073741824) (hr : risen t t.length) (k : Nat) (hk : t.length + 2 ≤ k) :
    ∃ r, spec_l10Find.f k t p = some r ∧ ((∃ i : Nat, r = i ∧ i < t.length ∧ (gd t i).f0 = p) ∨ (r = -1 ∧ ∀ i, i < t.length → (gd t i).f0 ≠ p)) :=
  spec_l10Find_l0 t p ht hr t.length k 0 t.length hk (by omega) (by omega) (by omega) (fun i h => absurd h (Nat.not_lt_zero _)) (fun i h1 h2 => by omega)
def dirAt (t : List S34) (n : Nat) (p : ByteArray) : Prop := ∃ i, i < n ∧ (gd t i).f0 = p ∧ (gd t i).f1 = 1
theorem gd_take (t : List S34) (n i : Nat) (h : i < n) : gd (t.take n) i = gd t i := by
  unfold gd
  rw [List.getD_eq_getElem?_getD, List.getD_eq_getElem?_getD, List.getElem?_take_of_lt h]
theorem spec_l10Dir_eq (t : List S34) (n : Nat) (p : ByteArray) (hn : n ≤ t.length) (ht : t.length < 1073741824) (hr : risen t n) (k : Nat) (hk : t.length + 2 ≤ k) :
    ∃ b, spec_l10Dir.f k (t.take n) p = some b ∧ (b = true ↔ dirAt t n p) := by
  have hl : (t.take n).length = n := by rw [List.length_take]; omega
  have hr2 : risen (t.take n) (t.take n).length := fun j h1 h2 => by
    rw [hl] at h2
    rw [gd_take t n _ (by omega), gd_take t n _ h2]
    exact hr j h1 h2
  obtain ⟨r, hf, hc⟩ := spec_l10Find_eq (t.take n) p (by omega) hr2 k (by omega)
  unfold spec_l10Dir.f
  rw [hf, Option.bind_some]
  rcases hc with ⟨i, rfl, hi, he⟩ | ⟨rfl, hno⟩
  · rw [if_pos (by omega), if_pos (by omega), if_pos (by omega), rd_gd]
    rw [hl] at hi
    rw [gd_take t n i hi] at he ⊢
    refine ⟨_, rfl, ?_⟩
    rw [beq_iff_eq]
    constructor
    · exact fun h => ⟨i, hi, he, h⟩
    · rintro ⟨j, hj, he2, h1⟩
      obtain rfl := risen_inj hr hi hj (he.trans he2.symm)
      exact h1
  · rw [if_neg (by omega)]
    refine ⟨false, rfl, ⟨fun h => (by cases h), ?_⟩⟩
    rintro ⟨j, hj, he2, _⟩
    exact absurd (by rw [gd_take t n j hj]; exact he2) (hno j (by omega))
theorem toList_nil (s : ByteArray) : s.toList = ([] : List UInt8) ↔ s.size = 0 := by
  rw [toList_bs]
  exact bs_nil
theorem spec_l10EntryOk_eq (e : S34) (hs : e.f0.size < 1073741824) (k : Nat) (hk : 2 * e.f0.size + 71 ≤ k) : spec_l10EntryOk.f k e.f0 e.f1 e.f2 e.f3 = some (entryOk e) := by
  obtain ⟨o, h⟩ := spec_l10Names_eq e.f0 hs k (by omega)
  obtain ⟨k, rfl⟩ : ∃ k', k = k' + 1 := ⟨k - 1, by omega⟩
  unfold spec_l10EntryOk.f entryOk
  rw [h, Option.bind_some]
  show (if pathOk e.f0 = true then _ else _) = _
  cases pathOk e.f0 with
  | false => rw [if_neg (by decide), spec_l10EntryOk.j0]; rfl
  | true =>
    rw [if_pos rfl, spec_l10EntryOk.j0]
    simp only [toList_nil]
    by_cases h1 : e.f2.size > 20000
    · rw [if_pos (by simp; omega)]
      simp; omega
    · rw [if_neg (by simp; omega)]
      have h2 : e.f2.size ≤ 20000 := by omega
      by_cases h3 : e.f1 = 1
      · by_cases h4 : e.f2.size = 0 <;> simp [h2, h3, h4]
      · by_cases h5 : e.f1 = 2
        · simp [h2, h3, h5]
        · by_cases h6 : e.f1 = 3
          · by_cases h4 : e.f2.size = 0 <;> simp [h2, h3, h5, h6, h4]
          · simp [h2, h3, h5, h6]
def goodAt (t : List S34) (i : Nat) : Prop :=
  entryOk (gd t i) = true ∧ (0 < i → less (gd t (i - 1)).f0 (gd t i).f0 = true) ∧ ((upOf (gd t i).f0).2 = true → dirAt t i (upOf (gd t i).f0).1)
def treeOk (t : List S34) : Prop := t.length ≤ 500 ∧ ∀ i, i < t.length → goodAt t i
def smallT (t : List S34) : Prop := ∀ i, (gd t i).f0.size ≤ 1048576
theorem entryOk_path {e : S34} (h : entryOk e = true) : pathOk e.f0 = true := by
  unfold entryOk at h
  rw [Bool.and_eq_true] at h
  exact h.1
theorem spec_TreeOk_l0 (t : List S34) (hl : t.length ≤ 500) (hz : smallT t) : ∀ (n k i : Nat), 2 * n + 2100000 ≤ k → i + n = t.length → (∀ j, j < i → goodAt t j) →
    ∃ b, spec_TreeOk.l0 k t (i : Int) = some b ∧ (b = true ↔ ∀ j, i ≤ j → j < t.length → goodAt t j) := by
  intro n
  induction n with
  | zero =>
    intro k i hk hi hg
    obtain ⟨k, rfl⟩ : ∃ k', k = k' + 1 := ⟨k - 1, by omega⟩
    rw [spec_TreeOk.l0, if_neg (by omega)]
    exact ⟨true, rfl, ⟨fun _ j h1 h2 => by omega, fun _ => rfl⟩⟩
  | succ n ih =>
    intro k i hk hi hg
    obtain ⟨k, rfl⟩ : ∃ k', k = k' + 2 := ⟨k - 2, by omega⟩
    have hzi := hz i
    have hw : wrap64 ((i : Int) + 1) = ((i + 1 : Nat) : Int) := by rw [wrap64_id (by omega) (by omega)]; omega
    rw [spec_TreeOk.l0, if_pos (by omega), if_pos (by omega), rd_gd, spec_l10EntryOk_eq _ (by omega) _ (by omega), Option.bind_some]
    have hbad : ¬ goodAt t i → (false = true ↔ ∀ j, i ≤ j → j < t.length → goodAt t j) := fun hb => ⟨fun h => (by cases h), fun h => absurd (h i (Nat.le_refl _) (by omega)) hb⟩
    have hr : risen t i := fun j h1 h2 => (hg j h2).2.1 h1
    -- behind the order
    have hj : entryOk (gd t i) = true → ∀ o : Bool, (0 < i → o = !(less (gd t (i - 1)).f0 (gd t i).f0)) → (i = 0 → o = false) →
        ∃ b, spec_TreeOk.j1 (k + 1) t (i : Int) o = some b ∧ (b = true ↔ ∀ j, i ≤ j → j < t.length → goodAt t j) := by
      intro he o ho1 ho2
      rw [spec_TreeOk.j1]
      cases o with
      | true =>
        rw [if_pos rfl]
        refine ⟨false, rfl, hbad fun hb => ?_⟩
        rcases Nat.eq_zero_or_pos i with h0 | h0
        · cases ho2 h0
        · have h1 := ho1 h0
          rw [hb.2.1 h0] at h1
          cases h1
      | false =>
        rw [if_neg (by decide), if_pos (by omega), if_pos (by omega), rd_gd, spec_l10Up_eq _ (by omega) _ (by omega), Option.bind_some, hw]
        have hord : 0 < i → less (gd t (i - 1)).f0 (gd t i).f0 = true := fun h0 => by
          have h1 := ho1 h0
          cases h2 : less (gd t (i - 1)).f0 (gd t i).f0 with
          | true => rfl
          | false => rw [h2] at h1; cases h1
        have hgo : goodAt t i → ∃ b, spec_TreeOk.l0 k t ((i + 1 : Nat) : Int) = some b ∧ (b = true ↔ ∀ j, i ≤ j → j < t.length → goodAt t j) := fun hgi => by
          obtain ⟨b, hb1, hb2⟩ := ih k (i + 1) (by omega) (by omega) (fun j hj => by
            rcases Nat.lt_or_ge j i with h | h
            · exact hg j h
            · obtain rfl : j = i := by omega
              exact hgi)
          refine ⟨b, hb1, hb2.trans ⟨fun h j h1 h2 => ?_, fun h j h1 h2 => h j (by omega) h2⟩⟩
          rcases Nat.lt_or_ge i j with h3 | h3
          · exact h j h3 h2
          · obtain rfl : j = i := by omega
            exact hgi
        cases hu : (upOf (gd t i).f0).2 with
        | false =>
          rw [upOf_no _ hu, if_pos ((toList_nil _).2 rfl)]
          exact hgo ⟨he, hord, fun h => by rw [hu] at h; cases h⟩
        | true =>
          obtain ⟨q, hq0, hq1, hq⟩ := upOf_ok _ (entryOk_path he) hu
          have hqs : (upOf (gd t i).f0).1.size ≠ 0 := by
            rw [hq, ← bs_length, bs_upto, List.length_take, bs_length]
            omega
          obtain ⟨b, hb1, hb2⟩ := spec_l10Dir_eq t i (upOf (gd t i).f0).1 (by omega) (by omega) hr k (by omega)
          rw [if_neg (fun h => hqs ((toList_nil _).1 h)), if_pos (by omega)]
          simp only [Int.toNat_natCast]
          rw [hb1, Option.bind_some]
          cases b with
          | true =>
            rw [if_pos rfl]
            exact hgo ⟨he, hord, fun _ => hb2.1 rfl⟩
          | false =>
            rw [if_neg (by decide)]
            exact ⟨false, rfl, hbad fun hb => by cases hb2.2 (hb.2.2 hu)⟩
    cases he : entryOk (gd t i) with
    | false =>
      rw [if_neg (by decide), spec_TreeOk.j1, if_pos rfl]
      exact ⟨false, rfl, hbad fun hb => by rw [hb.1] at he; cases he⟩
    | true =>
      rw [if_pos rfl]
      by_cases h0 : 0 < i
      · have hw2 : wrap64 ((i : Int) - 1) = ((i - 1 : Nat) : Int) := by rw [wrap64_id (by omega) (by omega)]; omega
        rw [if_pos (by omega), hw2, if_pos (by omega), if_pos (by omega), rd_gd, bl_less]
        exact hj he _ (fun _ => rfl) (fun h => by omega)
      · rw [if_neg (by omega)]
        exact hj he false (fun h => absurd h h0) (fun _ => rfl)
theorem spec_TreeOk_eq (t : List S34) (hz : smallT t) (k : Nat) (hk : 2110000 ≤ k) : ∃ b, spec_TreeOk.f k t = some b ∧ (b = true ↔ treeOk t) := by
  unfold spec_TreeOk.f treeOk
  by_cases h : t.length > 500
  · rw [if_pos (by omega)]
    exact ⟨false, rfl, ⟨fun h => (by cases h), fun h2 => by omega⟩⟩
  · rw [if_neg (by omega)]
    obtain ⟨b, h1, h2⟩ := spec_TreeOk_l0 t (by omega) hz t.length k 0 (by omega) (by omega) (fun j h => absurd h (Nat.not_lt_zero _))
    exact ⟨b, h1, h2.trans ⟨fun h3 => ⟨by omega, fun i hi => h3 i (Nat.zero_le _) hi⟩, fun h3 j _ hj => h3.2 j hj⟩⟩
end Go.Proofs.YthaaboajbnkabaaDoor.P
end

section
set_option linter.unusedVariables false
set_option linter.unusedSimpArgs false
namespace Go.Proofs.YthaaboajbnkabaaDoor.P
open Go.RowKit Go.Proofs.YthaaboajbnkabaaDoorW.PrintWords Go.Proofs.YthaaboajbnkabaaDoorM
theorem mgetD_snoc (m : List (ByteArray × Int)) (a p : ByteArray) : mgetD 0 (m ++ [(a, 1)]) p = if a = p then 1 else mgetD 0 m p := by
  unfold mgetD
  by_cases h : a = p <;> simp [h]
def dm (t : List S34) : Nat → List (ByteArray × Int)
  | 0 => []
  | i + 1 => if (gd t i).f1 = 1 then dm t i ++ [((gd t i).f0, 1)] else dm t i
theorem dm_length (t : List S34) : ∀ n, (dm t n).length ≤ n
  | 0 => by simp [dm]
  | n + 1 => by
    have := dm_length t n
    rw [dm]
    split
    · simp; omega
    · omega
theorem dm_get (t : List S34) (p : ByteArray) : ∀ n, (mgetD 0 (dm t n) p = 0 ↔ ¬ dirAt t n p)
  | 0 => by
    simp only [dm, mgetD]
    refine ⟨fun _ h => ?_, fun _ => by simp⟩
    obtain ⟨i, hi, _⟩ := h
    omega
  | n + 1 => by
    have ih := dm_get t p n
    have hs : dirAt t (n + 1) p ↔ dirAt t n p ∨ ((gd t n).f0 = p ∧ (gd t n).f1 = 1) := by
      constructor
      · rintro ⟨i, hi, h⟩
        rcases Nat.lt_or_ge i n with h1 | h1
        · exact .inl ⟨i, h1, h⟩
        · obtain rfl : i = n := by omega
          exact .inr h
      · rintro (⟨i, hi, h⟩ | h)
        · exact ⟨i, by omega, h⟩
        · exact ⟨n, by omega, h⟩
    rw [dm, hs]
    by_cases h1 : (gd t n).f1 = 1
    · rw [if_pos h1, mgetD_snoc]
      by_cases h2 : (gd t n).f0 = p
      · simp [h1, h2]
      · simp [h1, h2, ih]
    · rw [if_neg h1, ih]
      simp [h1]
theorem impl_TreeOk_l1 (t : List S34) (hl : t.length ≤ 500) (hz : smallT t) : ∀ (n k i : Nat), n + 1 ≤ k → i + n = t.length →
    ∃ b, impl_TreeOk.l1 k (dm t t.length) t (t.length : Int) (i : Int) = some b ∧ (b = true ↔ ∀ j, i ≤ j → j < t.length → (upOf (gd t j).f0).2 = true → dirAt t t.length (upOf (gd t j).f0).1) := by
  intro n
  induction n with
  | zero =>
    intro k i hk hi
    obtain ⟨k, rfl⟩ : ∃ k', k = k' + 1 := ⟨k - 1, by omega⟩
    rw [impl_TreeOk.l1, if_neg (by omega)]
    exact ⟨true, rfl, ⟨fun _ j h1 h2 => by omega, fun _ => rfl⟩⟩
  | succ n ih =>
    intro k i hk hi
    obtain ⟨k, rfl⟩ : ∃ k', k = k' + 1 := ⟨k - 1, by omega⟩
    have hzi := hz i
    have hw : wrap64 ((i : Int) + 1) = ((i + 1 : Nat) : Int) := by rw [wrap64_id (by omega) (by omega)]; omega
    rw [impl_TreeOk.l1, if_pos (by omega), if_pos (by omega), if_pos (by omega), rd_gd, impl_upper_eq _ (by omega), Option.bind_some, hw]
    obtain ⟨b, hb1, hb2⟩ := ih k (i + 1) (by omega) (by omega)
    have hgo : ((upOf (gd t i).f0).2 = true → dirAt t t.length (upOf (gd t i).f0).1) → ∃ b, impl_TreeOk.l1 k (dm t t.length) t (t.length : Int) ((i + 1 : Nat) : Int) = some b ∧ (b = true ↔ ∀ j, i ≤ j → j < t.length → (upOf (gd t j).f0).2 = true → dirAt t t.length (upOf (gd t j).f0).1) := fun hg => by
      refine ⟨b, hb1, hb2.trans ⟨fun h j h1 h2 => ?_, fun h j h1 h2 => h j (by omega) h2⟩⟩
      rcases Nat.lt_or_ge i j with h3 | h3
      · exact h j h3 h2
      · obtain rfl : j = i := by omega
        exact hg
    cases hu : (upOf (gd t i).f0).2 with
    | false => rw [if_neg (by decide)]; exact hgo (fun h => by rw [hu] at h; cases h)
    | true =>
      have hus : (upOf (gd t i).f0).1.size ≤ 1048576 := by
        unfold upOf
        split
        · decide
        · show ((gd t i).f0.extract 0 _).size ≤ _
          rw [← bs_length, bs_upto, List.length_take, bs_length]
          omega
      rw [if_pos rfl, if_pos (by omega)]
      by_cases hd : mgetD 0 (dm t t.length) (upOf (gd t i).f0).1 = 0
      · rw [if_pos hd]
        exact ⟨false, rfl, ⟨fun h => (by cases h), fun h => absurd (h i (Nat.le_refl _) (by omega) hu) ((dm_get t _ _).1 hd)⟩⟩
      · rw [if_neg hd]
        refine hgo (fun _ => ?_)
        by_cases hx : dirAt t t.length (upOf (gd t i).f0).1
        · exact hx
        · exact absurd ((dm_get t _ _).2 hx) hd
def firstAt (t : List S34) (i : Nat) : Prop := entryOk (gd t i) = true ∧ (0 < i → less (gd t (i - 1)).f0 (gd t i).f0 = true)
def upsIn (t : List S34) : Prop := ∀ j, j < t.length → (upOf (gd t j).f0).2 = true → dirAt t t.length (upOf (gd t j).f0).1
theorem impl_TreeOk_l0 (t : List S34) (hl : t.length ≤ 500) (hz : smallT t) : ∀ (n k i : Nat), 2 * n + 700 ≤ k → i + n = t.length →
    ∃ b, impl_TreeOk.l0 k t (dm t i) t (t.length : Int) (i : Int) = some b ∧ (b = true ↔ (∀ j, i ≤ j → j < t.length → firstAt t j) ∧ upsIn t) := by
  intro n
  induction n with
  | zero =>
    intro k i hk hi
    obtain ⟨k, rfl⟩ : ∃ k', k = k' + 1 := ⟨k - 1, by omega⟩
    obtain rfl : i = t.length := by omega
    rw [impl_TreeOk.l0, if_neg (by omega)]
    obtain ⟨b, h1, h2⟩ := impl_TreeOk_l1 t hl hz t.length k 0 (by omega) (by omega)
    exact ⟨b, h1, h2.trans ⟨fun h => ⟨fun j h3 h4 => by omega, fun j hj => h j (Nat.zero_le _) hj⟩, fun h j _ hj => h.2 j hj⟩⟩
  | succ n ih =>
    intro k i hk hi
    obtain ⟨k, rfl⟩ : ∃ k', k = k' + 2 := ⟨k - 2, by omega⟩
    have hzi := hz i
    have hw : wrap64 ((i : Int) + 1) = ((i + 1 : Nat) : Int) := by rw [wrap64_id (by omega) (by omega)]; omega
    have hdl := dm_length t i
    rw [impl_TreeOk.l0, if_pos (by omega), if_pos (by omega), if_pos (by omega), rd_gd, impl_pathOk_eq _ (by omega) _ (by omega), Option.bind_some]
    have hbad : ¬ firstAt t i → (false = true ↔ (∀ j, i ≤ j → j < t.length → firstAt t j) ∧ upsIn t) := fun hb => ⟨fun h => (by cases h), fun h => absurd (h.1 i (Nat.le_refl _) (by omega)) hb⟩
    -- behind the tests
    have hj : ∀ o : Bool, (o = true → ¬ firstAt t i) → (o = false → pathOk (gd t i).f0 = true ∧ ((gd t i).f3 = true → (gd t i).f1 = 2) ∧ (0 < i → less (gd t (i - 1)).f0 (gd t i).f0 = true)) →
        ∃ b, impl_TreeOk.j1 (k + 1) t (dm t i) t (t.length : Int) (i : Int) o (gd t i).f0 (gd t i).f1 (gd t i).f2 (gd t i).f3 = some b ∧ (b = true ↔ (∀ j, i ≤ j → j < t.length → firstAt t j) ∧ upsIn t) := by
      intro o ho1 ho2
      rw [impl_TreeOk.j1, hw]
      cases o with
      | true => rw [if_pos rfl]; exact ⟨false, rfl, hbad (ho1 rfl)⟩
      | false =>
        obtain ⟨hp, hx, hor⟩ := ho2 rfl
        obtain ⟨b, hb1, hb2⟩ := ih k (i + 1) (by omega) (by omega)
        have hgo : entryOk (gd t i) = true → (b = true ↔ (∀ j, i ≤ j → j < t.length → firstAt t j) ∧ upsIn t) := fun he => by
          refine hb2.trans ⟨fun h => ⟨fun j h1 h2 => ?_, h.2⟩, fun h => ⟨fun j h1 h2 => h.1 j (by omega) h2, h.2⟩⟩
          rcases Nat.lt_or_ge i j with h3 | h3
          · exact h.1 j h3 h2
          · obtain rfl : j = i := by omega
            exact ⟨he, hor⟩
        rw [if_neg (by decide)]
        simp only [toList_nil]
        have hno : entryOk (gd t i) = false → ∃ b', (some false : Option Bool) = some b' ∧ (b' = true ↔ (∀ j, i ≤ j → j < t.length → firstAt t j) ∧ upsIn t) := fun he => ⟨false, rfl, hbad fun hb => by rw [hb.1] at he; cases he⟩
        by_cases h1 : (gd t i).f1 = 1
        · rw [if_pos h1]
          have hx2 : (gd t i).f3 = false := by
            cases h : (gd t i).f3 with
            | false => rfl
            | true => have := hx h; omega
          by_cases h4 : (gd t i).f2.size = 0
          · rw [if_pos h4, if_pos (by omega), if_pos (by omega)]
            rw [dm, if_pos h1] at hb1
            exact ⟨b, hb1, hgo (by simp [entryOk, hp, h1, h4, hx2])⟩
          · rw [if_neg h4]
            exact hno (by simp [entryOk, hp, h1, h4])
        · rw [if_neg h1]
          rw [dm, if_neg h1] at hb1
          by_cases h2 : (gd t i).f1 = 2
          · rw [if_pos h2]
            by_cases h4 : (gd t i).f2.size > 20000
            · rw [if_pos (by omega)]
              exact hno (by simp [entryOk, hp, show ¬ (gd t i).f2.size ≤ 20000 by omega])
            · rw [if_neg (by omega)]
              exact ⟨b, hb1, hgo (by simp [entryOk, hp, h2, show (gd t i).f2.size ≤ 20000 by omega])⟩
          · rw [if_neg h2]
            have hx2 : (gd t i).f3 = false := by
              cases h : (gd t i).f3 with
              | false => rfl
              | true => exact absurd (hx h) h2
            by_cases h3 : (gd t i).f1 = 3
            · rw [if_pos h3]
              by_cases h4 : (gd t i).f2.size < 1
              · rw [if_pos (by omega)]
                exact hno (by simp [entryOk, hp, h3, show (gd t i).f2.size = 0 by omega])
              · rw [if_neg (by omega)]
                by_cases h5 : (gd t i).f2.size > 20000
                · rw [if_pos (by omega)]
                  exact hno (by simp [entryOk, hp, show ¬ (gd t i).f2.size ≤ 20000 by omega])
                · rw [if_neg (by omega)]
                  exact ⟨b, hb1, hgo (by simp [entryOk, hp, h3, hx2, show (gd t i).f2.size ≤ 20000 by omega, show ¬ (gd t i).f2.size = 0 by omega])⟩
            · rw [if_neg h3]
              exact hno (by simp [entryOk, h1, h2, h3])
    have hex : (gd t i).f3 = true → (gd t i).f1 ≠ 2 → entryOk (gd t i) = false := fun h3 h2 => by simp [entryOk, h3, h2]
    have htail : pathOk (gd t i).f0 = true → (0 < i → less (gd t (i - 1)).f0 (gd t i).f0 = true) →
        ∃ b, (if (gd t i).f3 = true then impl_TreeOk.j1 (k + 1) t (dm t i) t (t.length : Int) (i : Int) ((gd t i).f1 != 2) (gd t i).f0 (gd t i).f1 (gd t i).f2 (gd t i).f3 else impl_TreeOk.j1 (k + 1) t (dm t i) t (t.length : Int) (i : Int) false (gd t i).f0 (gd t i).f1 (gd t i).f2 (gd t i).f3) = some b ∧ (b = true ↔ (∀ j, i ≤ j → j < t.length → firstAt t j) ∧ upsIn t) := fun hp hor => by
      by_cases h3 : (gd t i).f3 = true
      · rw [if_pos h3]
        refine hj _ (fun h hb => ?_) (fun h => ⟨hp, fun _ => by simpa using h, hor⟩)
        have := hex h3 (by simpa using h)
        rw [hb.1] at this
        cases this
      · rw [if_neg h3]
        exact hj _ (fun h => by cases h) (fun _ => ⟨hp, fun h => absurd h h3, hor⟩)
    cases hp : pathOk (gd t i).f0 with
    | false =>
      rw [if_neg (by decide)]
      exact hj _ (fun _ hb => by have := entryOk_path hb.1; rw [hp] at this; cases this) (fun h => by cases h)
    | true =>
      rw [if_pos rfl]
      by_cases h0 : 0 < i
      · have hw2 : wrap64 ((i : Int) - 1) = ((i - 1 : Nat) : Int) := by rw [wrap64_id (by omega) (by omega)]; omega
        rw [if_pos (by omega), hw2, if_pos (by omega), if_pos (by omega), rd_gd, bl_less]
        cases ho : less (gd t (i - 1)).f0 (gd t i).f0 with
        | true => rw [if_pos rfl]; exact htail hp (fun _ => ho)
        | false =>
          rw [if_neg (by decide)]
          exact hj _ (fun _ hb => by have := hb.2 h0; rw [ho] at this; cases this) (fun h => by cases h)
      · rw [if_neg (by omega)]
        exact htail hp (fun h => absurd h h0)
theorem treeOk_iff (t : List S34) : (t.length ≤ 500 ∧ (∀ j, j < t.length → firstAt t j) ∧ upsIn t) ↔ treeOk t := by
  constructor
  · rintro ⟨h0, h1, h2⟩
    have hr : risen t t.length := fun j hj1 hj2 => (h1 j hj2).2 hj1
    refine ⟨h0, fun i hi => ⟨(h1 i hi).1, (h1 i hi).2, fun hu => ?_⟩⟩
    obtain ⟨j, hj, he, hk⟩ := h2 i hi hu
    refine ⟨j, ?_, he, hk⟩
    obtain ⟨q, hq0, hq1, hq⟩ := upOf_ok _ (entryOk_path (h1 i hi).1) hu
    have hlt : less (upOf (gd t i).f0).1 (gd t i).f0 = true := by
      unfold less
      rw [hq, bs_upto]
      exact less_begin _ _ (by rw [bs_length]; exact hq1)
    rcases Nat.lt_trichotomy j i with h | h | h
    · exact h
    · subst h
      rw [← he, less_irrefl] at hlt
      cases hlt
    · have h3 := risen_less hr h hj
      rw [he] at h3
      rw [less_asymm h3] at hlt
      cases hlt
  · rintro ⟨h0, h1⟩
    refine ⟨h0, fun j hj => ⟨(h1 j hj).1, (h1 j hj).2.1⟩, fun j hj hu => ?_⟩
    obtain ⟨q, hq, h⟩ := (h1 j hj).2.2 hu
    exact ⟨q, by omega, h⟩
theorem impl_TreeOk_eq (t : List S34) (hz : smallT t) (k : Nat) (hk : 2000 ≤ k) : ∃ b, impl_TreeOk.f k t = some b ∧ (b = true ↔ treeOk t) := by
  unfold impl_TreeOk.f
  by_cases h : t.length > 500
  · rw [if_pos (by omega)]
    exact ⟨false, rfl, ⟨fun h => (by cases h), fun h2 => by have := h2.1; omega⟩⟩
  · rw [if_neg (by omega)]
    obtain ⟨b, h1, h2⟩ := impl_TreeOk_l0 t (by omega) hz t.length k 0 (by omega) (by omega)
    refine ⟨b, h1, h2.trans (Iff.trans ?_ (treeOk_iff t))⟩
    exact ⟨fun h3 => ⟨by omega, fun j hj => h3.1 j (Nat.zero_le _) hj, h3.2⟩, fun h3 => ⟨fun j _ hj => h3.2.1 j hj, h3.2.2⟩⟩
end Go.Proofs.YthaaboajbnkabaaDoor.P
end

section
set_option linter.unusedVariables false
set_option linter.unusedSimpArgs false
namespace Go.Proofs.YthaaboajbnkabaaDoor.P
open Go.RowKit Go.Proofs.YthaaboajbnkabaaDoorW.PrintWords Go.Proofs.YthaaboajbnkabaaDoorW.PrintLast Go.Proofs.YthaaboajbnkabaaDoorM
theorem bits_i64_nat (op : BinOp) (x y : Nat) (hx : x < 9223372036854775808) (hy : y < 9223372036854775808) :
    Go.bits .and .i64 (x : Int) (y : Int) = ((x &&& y : Nat) : Int) ∧ Go.bits .or .i64 (x : Int) (y : Int) = ((x ||| y : Nat) : Int) := by
  have hbx : (BitVec.ofInt 64 (x : Int)).toNat = x := by rw [BitVec.toNat_ofInt]; omega
  have hby : (BitVec.ofInt 64 (y : Int)).toNat = y := by rw [BitVec.toNat_ofInt]; omega
  have hand : x &&& y < 9223372036854775808 := Nat.lt_of_le_of_lt Nat.and_le_left hx
  have hor : x ||| y < 9223372036854775808 := Nat.or_lt_two_pow (n := 63) hx hy
  constructor
  · unfold Go.bits
    show IntKind.i64.wrap (((BitVec.ofInt 64 (x : Int)) &&& (BitVec.ofInt 64 (y : Int))).toNat : Int) = _
    rw [BitVec.toNat_and, hbx, hby, i64_w, wrap64_id (by omega) (by omega)]
  · unfold Go.bits
    show IntKind.i64.wrap (((BitVec.ofInt 64 (x : Int)) ||| (BitVec.ofInt 64 (y : Int))).toNat : Int) = _
    rw [BitVec.toNat_or, hbx, hby, i64_w, wrap64_id (by omega) (by omega)]
theorem varint_byte (v : Nat) (hv : v < 9223372036854775808) : Go.bits .or .i64 (Go.bits .and .i64 (v : Int) 127) 128 = ((v % 128 + 128 : Nat) : Int) := by
  have h1 := (bits_i64_nat .and v 127 hv (by omega)).1
  rw [show ((127 : Nat) : Int) = 127 from rfl] at h1
  have e1 : v &&& 127 = v % 128 := Nat.and_two_pow_sub_one_eq_mod v 7
  rw [h1, e1]
  have h2 := (bits_i64_nat .or (v % 128) 128 (by omega) (by omega)).2
  rw [show ((128 : Nat) : Int) = 128 from rfl] at h2
  have e2 : v % 128 ||| 128 = v % 128 + 128 := Nat.or_two_pow_eq_add_of_lt (n := 7) (by omega)
  rw [h2, e2]
def vi : Nat → Nat → List Int
  | 0, _ => []
  | k + 1, v => if 128 ≤ v then ((v % 128 + 128 : Nat) : Int) :: vi k (v / 128) else [(v : Int)]
theorem vi_length : ∀ k v, (vi k v).length ≤ k
  | 0, _ => by simp [vi]
  | k + 1, v => by
    rw [vi]
    split
    · simpa using vi_length k (v / 128)
    · simp
theorem impl_varint_eq : ∀ (n k v : Nat) (l : List Int), n ≤ k → v < 128 ^ n → 0 < n → n ≤ 9 → l.length + n < 140737488355328 → impl_varint.f k l (v : Int) = some (l ++ vi n v) := by
  intro n
  induction n with
  | zero => intro k v l _ _ h; omega
  | succ n ih =>
    intro k v l hk hv _ hn9 hl
    obtain ⟨k, rfl⟩ : ∃ k', k = k' + 1 := ⟨k - 1, by omega⟩
    have hv63 : v < 9223372036854775808 := Nat.lt_of_lt_of_le hv (Nat.le_trans (Nat.pow_le_pow_right (by decide) hn9) (by decide))
    unfold impl_varint.f
    rw [impl_varint.l0, vi]
    by_cases h : 128 ≤ v
    · rw [if_pos (by omega), if_pos (by omega), if_pos h, varint_byte v hv63]
      have e : ((v % 128 + 128 : Nat) : Int) % 256 = ((v % 128 + 128 : Nat) : Int) := by omega
      have e2 : (v : Int) / 128 = ((v / 128 : Nat) : Int) := by omega
      have hn : 0 < n := by
        rcases Nat.eq_zero_or_pos n with h0 | h0
        · subst h0; simp at hv; omega
        · exact h0
      have := ih k (v / 128) (l ++ [((v % 128 + 128 : Nat) : Int)]) (by omega) (by rw [Nat.pow_succ] at hv; omega) hn (by omega) (by simp; omega)
      unfold impl_varint.f at this
      rw [e, e2, this]
      simp
    · rw [if_neg (by omega), if_pos (by omega), if_neg h]
      have e : (v : Int) % 256 = (v : Int) := by omega
      rw [e]
theorem spec_l10Num_eq : ∀ (n k v : Nat) (l : List Int), n ≤ k → v < 128 ^ n → 0 < n → n ≤ 9 → l.length + n < 140737488355328 → spec_l10Num.f k l (v : Int) = some (l ++ vi n v) := by
  intro n
  induction n with
  | zero => intro k v l _ _ h; omega
  | succ n ih =>
    intro k v l hk hv _ hn9 hl
    obtain ⟨k, rfl⟩ : ∃ k', k = k' + 1 := ⟨k - 1, by omega⟩
    have hv63 : v < 9223372036854775808 := Nat.lt_of_lt_of_le hv (Nat.le_trans (Nat.pow_le_pow_right (by decide) hn9) (by decide))
    unfold spec_l10Num.f
    rw [spec_l10Num.l0, vi]
    by_cases h : 128 ≤ v
    · have e : (wrap64 (Int.tmod (v : Int) 128 + 128)) % 256 = ((v % 128 + 128 : Nat) : Int) := by
        rw [Int.tmod_eq_emod_of_nonneg (by omega), wrap64_id (by omega) (by omega)]
        omega
      have e2 : wrap64 (Int.tdiv (v : Int) 128) = ((v / 128 : Nat) : Int) := by
        rw [Int.tdiv_eq_ediv_of_nonneg (by omega), wrap64_id (by omega) (by omega)]
        omega
      rw [if_pos (by omega), if_pos (by omega), if_pos h, e, e2]
      have hn : 0 < n := by
        rcases Nat.eq_zero_or_pos n with h0 | h0
        · subst h0; simp at hv; omega
        · exact h0
      have := ih k (v / 128) (l ++ [((v % 128 + 128 : Nat) : Int)]) (by omega) (by rw [Nat.pow_succ] at hv; omega) hn (by omega) (by simp; omega)
      unfold spec_l10Num.f at this
      rw [this]
      simp
    · rw [if_neg (by omega), if_pos (by omega), if_neg h]
      have e : (v : Int) % 256 = (v : Int) := by omega
      rw [e]
def tx (s : ByteArray) : List Int := vi 4 s.size ++ bytesOf s
theorem tx_length (s : ByteArray) : (tx s).length ≤ 4 + s.size := by
  have := vi_length 4 s.size
  rw [tx, List.length_append, bytesOf_length]
  omega
theorem spec_l10Text_eq (k : Nat) (l : List Int) (s : ByteArray) (hk : 4 ≤ k) (hs : s.size ≤ 1048576) (hl : l.length ≤ 70368744177664) : spec_l10Text.f k l s = some (l ++ tx s) := by
  unfold spec_l10Text.f
  have hv := vi_length 4 s.size
  have hb := bytesOf_length s
  rw [spec_l10Num_eq 4 k s.size l hk (by omega) (by omega) (by omega) (by omega), Option.bind_some, if_pos (by omega), Option.bind_some, if_pos (by rw [List.length_append]; omega), tx]
  simp
def kb (e : S34) : Int := if e.f3 = true then ((e.f1 % 256) + 16) % 256 else e.f1 % 256
def pk (t : List S34) : Nat → Nat → List Int
  | 0, _ => []
  | n + 1, i => (kb (gd t i) :: (tx (gd t i).f0 ++ tx (gd t i).f2)) ++ pk t n (i + 1)
theorem impl_PackTree_l0 (t : List S34) (hl : t.length ≤ 500) (hz : ∀ i, (gd t i).f0.size ≤ 1048576 ∧ (gd t i).f2.size ≤ 1048576) : ∀ (n k i : Nat) (acc : List Int), n + 5 ≤ k → i + n = t.length → acc.length ≤ 4194304 * (i + 1) →
    impl_PackTree.l0 k acc t (t.length : Int) (i : Int) = some (acc ++ pk t n i) := by
  intro n
  induction n with
  | zero =>
    intro k i acc hk hi ha
    obtain ⟨k, rfl⟩ : ∃ k', k = k' + 1 := ⟨k - 1, by omega⟩
    rw [impl_PackTree.l0, if_neg (by omega), pk, List.append_nil]
  | succ n ih =>
    intro k i acc hk hi ha
    obtain ⟨k, rfl⟩ : ∃ k', k = k' + 1 := ⟨k - 1, by omega⟩
    have hzi := hz i
    have hw : wrap64 ((i : Int) + 1) = ((i + 1 : Nat) : Int) := by rw [wrap64_id (by omega) (by omega)]; omega
    have hv0 := vi_length 4 (gd t i).f0.size
    have hv2 := vi_length 4 (gd t i).f2.size
    have hb0 := bytesOf_length (gd t i).f0
    have hb2 := bytesOf_length (gd t i).f2
    rw [impl_PackTree.l0, if_pos (by omega), if_pos (by omega), if_pos (by omega), rd_gd, hw]
    have go : ∀ b : Int, b = kb (gd t i) → (if acc.length < 140737488355328 then ((impl_varint.f k (acc ++ [b]) ((gd t i).f0.size : Int)).bind fun u1 => (if u1.length + ((gd t i).f0).size < 140737488355328 then ((impl_varint.f k (u1 ++ bytesOf ((gd t i).f0)) (((gd t i).f2).size : Int)).bind fun u2 => (if u2.length + ((gd t i).f2).size < 140737488355328 then (impl_PackTree.l0 k (u2 ++ bytesOf ((gd t i).f2)) t (t.length : Int) ((i + 1 : Nat) : Int)) else (none))) else (none))) else none) = some (acc ++ pk t (n + 1) i) := by
      intro b hb
      rw [if_pos (by omega), impl_varint_eq 4 k _ _ (by omega) (by omega) (by omega) (by omega) (by simp; omega), Option.bind_some, if_pos (by simp; omega),
        impl_varint_eq 4 k _ _ (by omega) (by omega) (by omega) (by omega) (by simp; omega), Option.bind_some, if_pos (by simp; omega), ih k (i + 1) _ (by omega) (by omega) (by simp; omega), pk, hb, tx, tx]
      simp
    by_cases h3 : (gd t i).f3 = true
    · rw [if_pos h3]
      exact go _ (by rw [kb, if_pos h3])
    · rw [if_neg h3]
      exact go _ (by rw [kb, if_neg h3])
theorem spec_PackTree_l0 (t : List S34) (hl : t.length ≤ 500) (hz : ∀ i, (gd t i).f0.size ≤ 1048576 ∧ (gd t i).f2.size ≤ 1048576) : ∀ (n k i : Nat) (acc : List Int), n + 5 ≤ k → i + n = t.length → acc.length ≤ 4194304 * (i + 1) →
    spec_PackTree.l0 k t acc (i : Int) = some (acc ++ pk t n i) := by
  intro n
  induction n with
  | zero =>
    intro k i acc hk hi ha
    obtain ⟨k, rfl⟩ : ∃ k', k = k' + 1 := ⟨k - 1, by omega⟩
    rw [spec_PackTree.l0, if_neg (by omega), pk, List.append_nil]
  | succ n ih =>
    intro k i acc hk hi ha
    obtain ⟨k, rfl⟩ : ∃ k', k = k' + 1 := ⟨k - 1, by omega⟩
    have hzi := hz i
    have hw : wrap64 ((i : Int) + 1) = ((i + 1 : Nat) : Int) := by rw [wrap64_id (by omega) (by omega)]; omega
    have ht0 := tx_length (gd t i).f0
    have ht2 := tx_length (gd t i).f2
    rw [spec_PackTree.l0, if_pos (by omega), if_pos (by omega), rd_gd, hw]
    have go : ∀ b : Int, b = kb (gd t i) → (if acc.length < 140737488355328 then ((spec_l10Text.f k (acc ++ [b]) ((gd t i).f0)).bind fun u1 => ((spec_l10Text.f k u1 ((gd t i).f2)).bind fun u2 => (spec_PackTree.l0 k t u2 ((i + 1 : Nat) : Int)))) else none) = some (acc ++ pk t (n + 1) i) := by
      intro b hb
      rw [if_pos (by omega), spec_l10Text_eq k _ _ (by omega) hzi.1 (by simp; omega), Option.bind_some, spec_l10Text_eq k _ _ (by omega) hzi.2 (by simp; omega), Option.bind_some, ih k (i + 1) _ (by omega) (by omega) (by simp; omega), pk, hb]
      simp
    by_cases h3 : (gd t i).f3 = true
    · rw [if_pos h3]
      refine go _ ?_
      rw [kb, if_pos h3]
      unfold wrap64
      omega
    · rw [if_neg h3]
      exact go _ (by rw [kb, if_neg h3])
def packed (t : List S34) : List Int := ([76, 65, 82, 49] ++ vi 4 t.length) ++ pk t t.length 0
theorem pack_both (t : List S34) (hz : ∀ i, (gd t i).f0.size ≤ 1048576 ∧ (gd t i).f2.size ≤ 1048576) (k : Nat) (hk : 2110000 ≤ k) :
    (treeOk t ∧ impl_PackTree.f k t = some (packed t) ∧ spec_PackTree.f k t = some (packed t)) ∨ (¬ treeOk t ∧ impl_PackTree.f k t = some [] ∧ spec_PackTree.f k t = some []) := by
  obtain ⟨b1, hi1, hi2⟩ := impl_TreeOk_eq t (fun i => (hz i).1) k (by omega)
  obtain ⟨b2, hs1, hs2⟩ := spec_TreeOk_eq t (fun i => (hz i).1) k (by omega)
  unfold impl_PackTree.f spec_PackTree.f
  rw [hi1, hs1, Option.bind_some, Option.bind_some]
  by_cases hok : treeOk t
  · left
    rw [if_pos (hi2.2 hok), if_pos (hs2.2 hok)]
    have hl := hok.1
    have hv := vi_length 4 t.length
    have h1 := impl_PackTree_l0 t hl hz t.length k 0 ([76, 65, 82, 49] ++ vi 4 t.length) (by omega) (by omega) (by simp; omega)
    have h2 := spec_PackTree_l0 t hl hz t.length k 0 ([76, 65, 82, 49] ++ vi 4 t.length) (by omega) (by omega) (by simp; omega)
    rw [show ((0 : Nat) : Int) = 0 from rfl] at h1 h2
    rw [impl_varint_eq 4 k _ _ (by omega) (by omega) (by omega) (by omega) (by simp), spec_l10Num_eq 4 k _ _ (by omega) (by omega) (by omega) (by omega) (by simp), Option.bind_some, Option.bind_some, h1, h2]
    exact ⟨hok, rfl, rfl⟩
  · right
    rw [if_neg (fun h => hok (hi2.1 h)), if_neg (fun h => hok (hs2.1 h))]
    exact ⟨hok, rfl, rfl⟩
end Go.Proofs.YthaaboajbnkabaaDoor.P
end

section
set_option linter.unusedVariables false
set_option linter.unusedSimpArgs false
namespace Go.Proofs.YthaaboajbnkabaaDoor.P
open Go.RowKit Go.Proofs.YthaaboajbnkabaaDoorW.PrintWords Go.Proofs.YthaaboajbnkabaaDoorW.PrintLast Go.Proofs.YthaaboajbnkabaaDoorM
def inB (l : List Int) : Prop := ∀ x ∈ l, 0 ≤ x ∧ x < 256
theorem strOf_bs (l : List Int) : bs (strOfNums l) = l.map fun n => UInt8.ofNat n.toNat := rfl
theorem strOf_size (l : List Int) : (strOfNums l).size = l.length := by rw [← bs_length, strOf_bs, List.length_map]
theorem u8_back {x : Int} (h : 0 ≤ x ∧ x < 256) : ((UInt8.ofNat x.toNat).toNat : Int) = x := by
  rw [UInt8.toNat_ofNat']
  have : x.toNat < 256 := by omega
  rw [Nat.mod_eq_of_lt (by simpa using this)]
  omega
theorem rd_at (l : List Int) (i : Nat) (h : i < l.length) : rd l (i : Int) = l[i] := by simp [rd, List.getD_eq_getElem?_getD, List.getElem?_eq_getElem h]
theorem rd_in {l : List Int} (hb : inB l) {i : Nat} (h : i < l.length) : 0 ≤ rd l (i : Int) ∧ rd l (i : Int) < 256 := by
  rw [rd_at l i h]; exact hb _ (List.getElem_mem h)
theorem bt_strOf {l : List Int} (hb : inB l) {i : Nat} (h : i < l.length) : bt (strOfNums l) (i : Int) = rd l (i : Int) := by
  rw [bt_nat _ _ (by rw [strOf_size]; exact h), rd_at l i h]
  simp only [strOf_bs, List.getElem_map]
  exact u8_back (hb _ (List.getElem_mem h))
theorem back_map : ∀ {l : List Int}, inB l → (l.map fun n => UInt8.ofNat n.toNat).map (fun c => (c.toNat : Int)) = l
  | [], _ => rfl
  | x :: l, h => by
    rw [List.map_cons, List.map_cons, back_map (fun y hy => h y (List.mem_cons_of_mem _ hy)), u8_back (h x (List.mem_cons_self ..))]
theorem strOf_inj {a b : List Int} (ha : inB a) (hb : inB b) (h : (strOfNums a).toList = (strOfNums b).toList) : a = b := by
  rw [toList_bs, toList_bs, strOf_bs, strOf_bs] at h
  rw [← back_map ha, ← back_map hb, h]
theorem bytesOf_bs (s : ByteArray) : bytesOf s = (bs s).map fun c => (c.toNat : Int) := rfl
theorem bytesOf_in (s : ByteArray) : inB (bytesOf s) := by
  intro x hx
  rw [bytesOf_bs, List.mem_map] at hx
  obtain ⟨c, _, rfl⟩ := hx
  have := c.toNat_lt
  omega
theorem back_bytes : ∀ l : List UInt8, (l.map fun c => (c.toNat : Int)).map (fun n => UInt8.ofNat n.toNat) = l
  | [] => rfl
  | x :: l => by rw [List.map_cons, List.map_cons, back_bytes l]; congr 1; simp
theorem inB_append {a b : List Int} (ha : inB a) (hb : inB b) : inB (a ++ b) := fun x hx => (List.mem_append.1 hx).elim (ha x) (hb x)
theorem vi_in : ∀ k v, inB (vi k v)
  | 0, _ => by intro x hx; rw [vi] at hx; cases hx
  | k + 1, v => by
    rw [vi]
    split
    · intro x hx
      rcases List.mem_cons.1 hx with rfl | hx
      · omega
      · exact vi_in k _ x hx
    · intro x hx
      rw [List.mem_singleton] at hx
      omega
theorem tx_in (s : ByteArray) : inB (tx s) := inB_append (vi_in _ _) (bytesOf_in s)
theorem kb_in (e : S34) : 0 ≤ kb e ∧ kb e < 256 := by
  unfold kb
  split <;> omega
theorem pk_in (t : List S34) : ∀ n i, inB (pk t n i)
  | 0, i => by intro x hx; rw [pk] at hx; cases hx
  | n + 1, i => by
    rw [pk]
    refine inB_append ?_ (pk_in t n (i + 1))
    intro x hx
    rcases List.mem_cons.1 hx with rfl | hx
    · exact kb_in _
    · exact inB_append (tx_in _) (tx_in _) x hx
theorem packed_in (t : List S34) : inB (packed t) := by
  unfold packed
  refine inB_append (inB_append ?_ (vi_in _ _)) (pk_in _ _ _)
  intro x hx
  simp only [List.mem_cons, List.not_mem_nil, or_false] at hx
  omega
theorem drop_cons {l : List Int} {i : Nat} {x : Int} {r : List Int} (h : l.drop i = x :: r) : i < l.length ∧ rd l (i : Int) = x ∧ l.drop (i + 1) = r := by
  have hi : i < l.length := by
    have := congrArg List.length h
    rw [List.length_drop, List.length_cons] at this
    omega
  rw [List.drop_eq_getElem_cons hi] at h
  injection h with h1 h2
  exact ⟨hi, by rw [rd_at l i hi]; exact h1, h2⟩
theorem drop_app {l a r : List Int} {i : Nat} (h : l.drop i = a ++ r) : l.drop (i + a.length) = r := by
  rw [← List.drop_drop, h, List.drop_left]
theorem p7 (j : Nat) : 2 ^ (7 * (j + 1)) = 2 ^ (7 * j) * 128 := by rw [show 7 * (j + 1) = 7 * j + 7 from rfl, Nat.pow_add]
theorem numL_vi {l : List Int} (hb : inB l) : ∀ (m v n j i k : Nat) (r : List Int), l.drop i = vi m v ++ r → v < 128 ^ m → 0 < m → m + j ≤ 5 → m ≤ k →
    impl_UnpackTree.numL k (strOfNums l) n j i true = some (n + v * 2 ^ (7 * j), i + (vi m v).length, true)
  | 0, _, _, _, _, _, _, _, _, h, _, _ => absurd h (by decide)
  | m + 1, v, n, j, i, k, r, hd, hv, _, hj, hk => by
    obtain ⟨k, rfl⟩ : ∃ k', k = k' + 1 := ⟨k - 1, by omega⟩
    rw [impl_UnpackTree.numL, if_pos rfl, strOf_size]
    rw [vi] at hd ⊢
    by_cases h : 128 ≤ v
    · rw [if_pos h, List.cons_append] at hd
      obtain ⟨hi, hr, hd2⟩ := drop_cons hd
      have hm : 0 < m := by
        rcases Nat.eq_zero_or_pos m with rfl | h0
        · simp at hv; omega
        · exact h0
      rw [if_neg (by omega), if_neg (by omega), bt_strOf hb hi, hr, if_neg (by omega), if_pos h, numL_vi hb m (v / 128) _ (j + 1) (i + 1) k r hd2 (by rw [Nat.pow_succ] at hv; omega) hm (by omega) (by omega), p7]
      congr 2
      · have e1 : (((v % 128 + 128 : Nat) : Int) % 128).toNat = v % 128 := by omega
        rw [e1]
        generalize 2 ^ (7 * j) = p
        have e2 : v / 128 * (p * 128) = (v / 128 * 128) * p := by rw [Nat.mul_comm p 128, ← Nat.mul_assoc]
        rw [e2, Nat.add_assoc, ← Nat.add_mul]
        congr 2
        omega
      · congr 1
        simp only [List.length_cons]
        omega
    · rw [if_neg h, List.singleton_append] at hd
      obtain ⟨hi, hr, hd2⟩ := drop_cons hd
      have e1 : ((v : Int) % 128).toNat = v := by omega
      rw [if_neg (by omega), if_neg (by omega), bt_strOf hb hi, hr, if_pos (by omega), if_neg h, e1]
      rfl
theorem cut_is {l r : List Int} {i : Nat} {p : ByteArray} (h : l.drop i = bytesOf p ++ r) : (strOfNums l).extract i (i + p.size) = p := by
  apply bs_inj
  rw [bs_extract, strOf_bs, ← List.map_drop, h, List.map_append, Nat.add_sub_cancel_left, bytesOf_bs, back_bytes, List.take_left' (bs_length p)]
theorem len_app {l a r : List Int} {i : Nat} (h : l.drop i = a ++ r) (ha : 0 < a.length) : i + a.length ≤ l.length := by
  have := congrArg List.length h
  rw [List.length_drop, List.length_append] at this
  omega
theorem vi_pos (m v : Nat) : 0 < (vi (m + 1) v).length := by
  rw [vi]; split <;> simp
theorem tx_pos (p : ByteArray) : 0 < (tx p).length := by
  have : 0 < (vi 4 p.size).length := vi_pos 3 p.size
  rw [tx, List.length_append]; omega
theorem textL_tx {l : List Int} (hb : inB l) {i : Nat} {p : ByteArray} {r : List Int} (h : l.drop i = tx p ++ r) (hp : p.size ≤ 1048576) :
    impl_UnpackTree.textL (strOfNums l) i true = some (p, i + (tx p).length, true) := by
  have hl := len_app h (tx_pos p)
  have htl : (tx p).length = (vi 4 p.size).length + p.size := by rw [tx, List.length_append, bytesOf_length]
  have h0 : l.drop i = vi 4 p.size ++ (bytesOf p ++ r) := by rw [h, tx, List.append_assoc]
  have h1 := drop_app h0
  unfold impl_UnpackTree.textL
  rw [numL_vi hb 4 p.size 0 0 i 6 _ h0 (by omega) (by decide) (by decide) (by decide), Option.bind_some, if_pos rfl]
  simp only [Nat.zero_add, Nat.mul_zero, Nat.pow_zero, Nat.mul_one]
  rw [strOf_size, if_neg (by omega), cut_is h1, htl]
  refine congrArg some (Prod.ext rfl (Prod.ext ?_ rfl))
  show i + (vi 4 p.size).length + p.size = i + ((vi 4 p.size).length + p.size)
  omega
theorem kb_kind {e : S34} (h : entryOk e = true) : kb e % 16 = e.f1 ∧ (kb e / 16 == 1) = e.f3 := by
  have hk : e.f1 = 1 ∨ e.f1 = 2 ∨ e.f1 = 3 := by
    unfold entryOk at h
    simp only [Bool.and_eq_true] at h
    have h2 := h.2.2
    by_cases h1 : e.f1 = 1
    · exact .inl h1
    · by_cases h3 : e.f1 = 2
      · exact .inr (.inl h3)
      · by_cases h4 : e.f1 = 3
        · exact .inr (.inr h4)
        · rw [if_neg h1, if_neg h3, if_neg h4] at h2; cases h2
  unfold kb
  rcases hk with hk | hk | hk <;> cases h3 : e.f3 <;> rw [hk] <;> decide
theorem unpL_pk {l : List Int} (hb : inB l) (t : List S34) (hok : treeOk t) (hz : ∀ i, (gd t i).f0.size ≤ 1048576 ∧ (gd t i).f2.size ≤ 1048576) : ∀ (n j i q : Nat), l.drop i = pk t n j → j + n = t.length → n < q →
    impl_UnpackTree.unpL q (strOfNums l) i true (t.take j) n = some (some (t, true))
  | 0, j, i, q, hd, hj, hq => by
    obtain ⟨q, rfl⟩ : ∃ q', q = q' + 1 := ⟨q - 1, by omega⟩
    rw [impl_UnpackTree.unpL, if_pos rfl, if_neg (by omega), List.take_of_length_le (by omega)]
  | n + 1, j, i, q, hd, hj, hq => by
    obtain ⟨q, rfl⟩ : ∃ q', q = q' + 1 := ⟨q - 1, by omega⟩
    have hjl : j < t.length := by omega
    have hl := hok.1
    rw [pk, List.cons_append, List.append_assoc] at hd
    obtain ⟨hi, hr, hd2⟩ := drop_cons hd
    have hd3 := drop_app hd2
    have hd4 := drop_app hd3
    have hent : impl_UnpackTree.ent (strOfNums l) i (gd t j).f0 (gd t j).f2 = gd t j := by
      have hk := kb_kind (hok.2 j hjl).1
      unfold impl_UnpackTree.ent
      rw [bt_strOf hb hi, hr, hk.1, hk.2]
    rw [impl_UnpackTree.unpL, if_pos rfl, if_pos (by omega), strOf_size, if_neg (by omega), if_neg (by rw [List.length_take]; omega), textL_tx hb hd2 (hz j).1, Option.bind_some]
    simp only []
    rw [textL_tx hb hd3 (hz j).2, Option.bind_some]
    simp only []
    rw [hent, Nat.add_sub_cancel]
    have e : t.take j ++ [gd t j] = t.take (j + 1) := by rw [gd_get t j hjl, List.take_append_getElem hjl]
    rw [e]
    exact unpL_pk hb t hok hz n (j + 1) _ q hd4 (by omega) (by omega)
theorem numL_some (s : ByteArray) : ∀ (k n j i : Nat) (b : Bool), k + j = 6 → 0 < k → ∃ n' i' b', impl_UnpackTree.numL k s n j i b = some (n', i', b')
  | 0, _, _, _, _, _, h => absurd h (by decide)
  | k + 1, n, j, i, b, hk, _ => by
    rw [impl_UnpackTree.numL]
    split
    · split
      · exact ⟨_, _, _, rfl⟩
      · split
        · exact ⟨_, _, _, rfl⟩
        · split
          · exact ⟨_, _, _, rfl⟩
          · exact numL_some s k _ _ _ _ (by omega) (by omega)
    · exact ⟨_, _, _, rfl⟩
theorem textL_some (s : ByteArray) (i : Nat) (b : Bool) (hi : i ≤ s.size) : ∃ t i' b', impl_UnpackTree.textL s i b = some (t, i', b') ∧ t.size ≤ s.size ∧ i' ≤ s.size := by
  obtain ⟨n, i1, b1, h⟩ := numL_some s 6 0 0 i b rfl (by decide)
  have hle := impl_UnpackTree.numL_le s 6 0 0 i b n i1 b1 hi h
  unfold impl_UnpackTree.textL
  rw [h, Option.bind_some]
  cases b1 with
  | false => exact ⟨_, _, _, if_neg (show ¬ (false = true) by decide), Nat.zero_le _, hle⟩
  | true =>
    simp only [if_true]
    by_cases hlt : s.size < n + i1
    · exact ⟨_, _, _, if_pos hlt, Nat.zero_le _, hle⟩
    · refine ⟨_, _, _, if_neg hlt, ?_, by omega⟩
      rw [ByteArray.size_extract]
      omega
def smalls (m : Nat) (t : List S34) : Prop := ∀ e ∈ t, e.f0.size ≤ m ∧ e.f2.size ≤ m
theorem smalls_gd {t : List S34} (h : smalls 1048576 t) : ∀ i, (gd t i).f0.size ≤ 1048576 ∧ (gd t i).f2.size ≤ 1048576 := fun i => by
  by_cases hi : i < t.length
  · exact h _ (gd_mem t i hi)
  · have : gd t i = z34 := by simp [gd, List.getD_eq_getElem?_getD, List.getElem?_eq_none (by omega : t.length ≤ i)]
    rw [this]
    decide
theorem unpL_some (s : ByteArray) : ∀ (q i : Nat) (b : Bool) (t : List S34) (n : Nat), 503 ≤ q + t.length → t.length ≤ 501 → i ≤ s.size → smalls s.size t →
    ∃ o, impl_UnpackTree.unpL q s i b t n = some o ∧ ∀ p, o = some p → smalls s.size p.1
  | 0, _, _, _, _, h, h2, _, _ => by omega
  | q + 1, i, b, t, n, h, h2, hi, hs => by
    rw [impl_UnpackTree.unpL]
    split
    · split
      · split
        · exact ⟨_, rfl, fun p e => by cases e⟩
        · split
          · exact ⟨_, rfl, fun p e => by cases e⟩
          · obtain ⟨p, i1, b1, h1, h3, h4⟩ := textL_some s (i + 1) b (by omega)
            obtain ⟨d, i2, b2, h5, h6, h7⟩ := textL_some s i1 b1 h4
            rw [h1, Option.bind_some]
            simp only []
            rw [h5, Option.bind_some]
            simp only []
            refine unpL_some s q i2 b2 _ (n - 1) (by rw [List.length_append]; simp; omega) (by rw [List.length_append]; simp; omega) h7 ?_
            intro e he
            rcases List.mem_append.1 he with he | he
            · exact hs e he
            · rw [List.mem_singleton] at he
              subst he
              exact ⟨h3, h6⟩
      · exact ⟨_, rfl, fun p e => by injection e with e; subst e; exact hs⟩
    · exact ⟨_, rfl, fun p e => by injection e with e; subst e; exact hs⟩
def isTree (t : List S34) (l : List Int) : Prop := treeOk t ∧ smalls 1048576 t ∧ packed t = l
theorem head_is {l : List Int} {t : List S34} (h : packed t = l) : l.drop 4 = vi 4 t.length ++ pk t t.length 0 ∧ l.take 4 = [76, 65, 82, 49] ∧ 4 ≤ l.length := by
  subst h
  unfold packed
  refine ⟨?_, ?_, by simp⟩
  · simp
  · simp
theorem prefix_is {l : List Int} (h : l.take 4 = [76, 65, 82, 49]) : Lib.hasPrefix (strOfNums l).data.toList [76, 65, 82, 49] = true := by
  have e : l = [76, 65, 82, 49] ++ l.drop 4 := by rw [← h, List.take_append_drop]
  unfold Lib.hasPrefix
  rw [List.isPrefixOf_iff_prefix]
  show [76, 65, 82, 49] <+: bs (strOfNums l)
  rw [strOf_bs, e, List.map_append]
  exact ⟨_, rfl⟩
theorem impl_unpacks {l : List Int} {t : List S34} (h : isTree t l) (hb : inB l) (hl : l.length ≤ 1048576) (k : Nat) (hk : 2110000 ≤ k) : impl_UnpackTree.f k l = some (t, true) := by
  obtain ⟨hok, hsm, hp⟩ := h
  have hz := smalls_gd hsm
  have h500 := hok.1
  obtain ⟨h4, htk, _⟩ := head_is hp
  have h5 := drop_app h4
  unfold impl_UnpackTree.f
  rw [if_pos (by omega), if_pos (prefix_is htk), numL_vi hb 4 t.length 0 0 4 6 _ h4 (by omega) (by decide) (by decide) (by decide), Option.bind_some]
  simp only [Nat.zero_add, Nat.mul_zero, Nat.pow_zero, Nat.mul_one]
  have hu := unpL_pk hb t hok hz t.length 0 _ 600 h5 (by omega) (by omega)
  rw [List.take_zero] at hu
  rw [hu, Option.bind_some]
  simp only [if_true]
  obtain ⟨b1, hi1, hi2⟩ := impl_TreeOk_eq t (fun i => (hz i).1) k (by omega)
  rw [hi1, Option.bind_some, if_pos (hi2.2 hok)]
  rcases pack_both t hz k hk with ⟨_, h1, _⟩ | ⟨h0, _, _⟩
  · rw [h1, Option.bind_some, if_pos (by rw [hp])]
  · exact absurd hok h0
theorem impl_tells {l : List Int} (hb : inB l) (hl : l.length ≤ 1048576) (k : Nat) (hk : 2110000 ≤ k) : impl_UnpackTree.f k l = some ([], false) ∨ ∃ t, impl_UnpackTree.f k l = some (t, true) ∧ isTree t l := by
  unfold impl_UnpackTree.f
  rw [if_pos (by omega)]
  by_cases hp : Lib.hasPrefix (strOfNums l).data.toList [76, 65, 82, 49] = true
  case neg => rw [if_neg hp]; exact .inl rfl
  rw [if_pos hp]
  have h4 : 4 ≤ (strOfNums l).size := by
    unfold Lib.hasPrefix at hp
    rw [List.isPrefixOf_iff_prefix] at hp
    have := hp.length_le
    rw [data_length] at this
    exact this
  obtain ⟨n, i, b, h1⟩ := numL_some (strOfNums l) 6 0 0 4 true rfl (by decide)
  have hi := impl_UnpackTree.numL_le _ 6 0 0 4 true n i b h4 h1
  obtain ⟨o, h2, h3⟩ := unpL_some (strOfNums l) 600 i b [] n (by simp) (by simp) hi (fun e he => by cases he)
  rw [h1, Option.bind_some]
  simp only []
  rw [h2, Option.bind_some]
  cases o with
  | none => exact .inl rfl
  | some q =>
    obtain ⟨t, b⟩ := q
    have hsm : smalls 1048576 t := fun e he => by
      have := h3 _ rfl e he
      rw [strOf_size] at this
      omega
    have hz := smalls_gd hsm
    cases b with
    | false => exact .inl rfl
    | true =>
      simp only [if_true]
      obtain ⟨b1, hi1, hi2⟩ := impl_TreeOk_eq t (fun i => (hz i).1) k (by omega)
      rw [hi1, Option.bind_some]
      by_cases hok : treeOk t
      case neg => rw [if_neg (fun h => hok (hi2.1 h))]; exact .inl rfl
      rw [if_pos (hi2.2 hok)]
      rcases pack_both t hz k hk with ⟨_, h5, _⟩ | ⟨h0, _, _⟩
      · rw [h5, Option.bind_some]
        by_cases he : (strOfNums (packed t)).toList = (strOfNums l).toList
        · rw [if_pos he]
          exact .inr ⟨t, rfl, hok, hsm, strOf_inj (packed_in t) hb he⟩
        · rw [if_neg he]; exact .inl rfl
      · exact absurd hok h0
end Go.Proofs.YthaaboajbnkabaaDoor.P
end

section
set_option linter.unusedVariables false
set_option linter.unusedSimpArgs false
namespace Go.Proofs.YthaaboajbnkabaaDoor.P
open Go.RowKit Go.Proofs.YthaaboajbnkabaaDoorW.PrintWords Go.Proofs.YthaaboajbnkabaaDoorW.PrintLast Go.Proofs.YthaaboajbnkabaaDoorM
theorem laws_eqEntryS_l0 (t : List S34) (hl : t.length ≤ 1048576) : ∀ (n k i : Nat), n + 1 ≤ k → i + n = t.length → laws_eqEntryS.l0 k t t (i : Int) = some true := by
  intro n
  induction n with
  | zero =>
    intro k i hk hi
    obtain ⟨k, rfl⟩ : ∃ k', k = k' + 1 := ⟨k - 1, by omega⟩
    rw [laws_eqEntryS.l0, if_neg (by omega)]
  | succ n ih =>
    intro k i hk hi
    obtain ⟨k, rfl⟩ : ∃ k', k = k' + 1 := ⟨k - 1, by omega⟩
    have hw : wrap64 ((i : Int) + 1) = ((i + 1 : Nat) : Int) := by rw [wrap64_id (by omega) (by omega)]; omega
    rw [laws_eqEntryS.l0, if_pos (by omega), if_pos (by omega), if_pos (by omega), hw]
    unfold laws_eqEntry.f
    rw [if_pos rfl, if_pos rfl, if_pos rfl, if_neg (by simp), Option.bind_some, if_pos rfl]
    exact ih k (i + 1) (by omega) (by omega)
theorem laws_eqEntryS_refl (t : List S34) (hl : t.length ≤ 1048576) (k : Nat) (hk : t.length + 1 ≤ k) : laws_eqEntryS.f k t t = some true := by
  unfold laws_eqEntryS.f
  rw [if_pos rfl]
  exact laws_eqEntryS_l0 t hl t.length k 0 hk (by omega)
theorem laws_eqByteS_l0 (t : List Int) (hl : t.length ≤ 1099511627776) : ∀ (n k i : Nat), n + 1 ≤ k → i + n = t.length → laws_eqByteS.l0 k t t (i : Int) = some true := by
  intro n
  induction n with
  | zero =>
    intro k i hk hi
    obtain ⟨k, rfl⟩ : ∃ k', k = k' + 1 := ⟨k - 1, by omega⟩
    rw [laws_eqByteS.l0, if_neg (by omega)]
  | succ n ih =>
    intro k i hk hi
    obtain ⟨k, rfl⟩ : ∃ k', k = k' + 1 := ⟨k - 1, by omega⟩
    have hw : wrap64 ((i : Int) + 1) = ((i + 1 : Nat) : Int) := by rw [wrap64_id (by omega) (by omega)]; omega
    rw [laws_eqByteS.l0, if_pos (by omega), if_pos (by omega), if_pos (by omega), if_pos rfl, hw]
    exact ih k (i + 1) (by omega) (by omega)
theorem laws_eqByteS_refl (t : List Int) (hl : t.length ≤ 1099511627776) (k : Nat) (hk : t.length + 1 ≤ k) : laws_eqByteS.f k t t = some true := by
  unfold laws_eqByteS.f
  rw [if_pos rfl]
  exact laws_eqByteS_l0 t hl t.length k 0 hk (by omega)
theorem size_one (c : Int) : (strOfNums [c]).size = 1 := rfl
theorem laws_markText_l0 : ∀ (n k : Nat) (x : Int) (s : ByteArray), n + 1 ≤ k → x < 10 ^ n → s.size + n ≤ 1000 → ∃ r, laws_markText.l0 k x s = some r := by
  intro n
  induction n with
  | zero =>
    intro k x s hk hx hs
    obtain ⟨k, rfl⟩ : ∃ k', k = k' + 1 := ⟨k - 1, by omega⟩
    rw [laws_markText.l0, if_neg (by simp at hx; omega), if_pos (by omega)]
    exact ⟨_, rfl⟩
  | succ n ih =>
    intro k x s hk hx hs
    obtain ⟨k, rfl⟩ : ∃ k', k = k' + 1 := ⟨k - 1, by omega⟩
    rw [laws_markText.l0]
    by_cases h : x > 0
    · rw [if_pos h, Option.bind_some, size_one, if_pos (by omega)]
      refine ih k _ _ (by omega) ?_ (by rw [ByteArray.size_append, size_one]; omega)
      rw [Int.tdiv_eq_ediv_of_nonneg (by omega)]
      have h1 : x / 10 < 10 ^ n := by rw [Int.pow_succ] at hx; omega
      by_cases h2 : x / 10 ≤ 9223372036854775807
      · rw [wrap64_id (by omega) h2]; exact h1
      · unfold wrap64; omega
    · rw [if_neg h, if_pos (by omega)]
      exact ⟨_, rfl⟩
theorem laws_markText_eq (k : Nat) (x : Int) (hx : x < 10000000000) (hk : 11 ≤ k) : ∃ r, laws_markText.f k x = some r := by
  unfold laws_markText.f
  by_cases h : x ≤ 0
  · rw [if_pos h]; exact ⟨_, rfl⟩
  · rw [if_neg h]; exact laws_markText_l0 10 k x _ hk hx (by decide)
def marked (a : Nat) : Nat → List Int
  | 0 => []
  | n + 1 => ((a : Int) % 256) :: marked (a + 1) n
theorem marked_length : ∀ n a, (marked a n).length = n
  | 0, _ => rfl
  | n + 1, a => by rw [marked, List.length_cons, marked_length n]
theorem marked_snoc : ∀ n a, marked a (n + 1) = marked a n ++ [((a + n : Nat) : Int) % 256]
  | 0, a => rfl
  | n + 1, a => by
    rw [marked, marked_snoc n (a + 1), marked]
    simp only [List.cons_append, List.cons.injEq, List.append_cancel_left_eq, true_and, and_true]
    omega
theorem laws_markByteS_l0 : ∀ (n k i : Nat) (t : List Int), i + n ≤ 1099511627776 → n + 1 ≤ k → t.length = n → laws_markByteS.l0 k (marked 1 i ++ t) ((i + 1 : Nat) : Int) (i : Int) = some (((i + n + 1 : Nat) : Int), marked 1 (i + n)) := by
  intro n
  induction n with
  | zero =>
    intro k i t hl hk ht
    obtain ⟨k, rfl⟩ : ∃ k', k = k' + 1 := ⟨k - 1, by omega⟩
    obtain rfl := List.eq_nil_of_length_eq_zero ht
    have hm := marked_length i 1
    rw [laws_markByteS.l0, if_neg (by simp [hm])]
    simp
  | succ n ih =>
    intro k i t hl hk ht
    obtain ⟨k, rfl⟩ : ∃ k', k = k' + 1 := ⟨k - 1, by omega⟩
    obtain ⟨x, t, rfl⟩ : ∃ x t', t = x :: t' := by cases t with
      | nil => cases ht
      | cons x t => exact ⟨x, t, rfl⟩
    have hm := marked_length i 1
    have hw : wrap64 ((i : Int) + 1) = ((i + 1 : Nat) : Int) := by rw [wrap64_id (by omega) (by omega)]; omega
    have hw2 : wrap64 (((i + 1 : Nat) : Int) + 1) = ((i + 1 + 1 : Nat) : Int) := by rw [wrap64_id (by omega) (by omega)]; omega
    rw [laws_markByteS.l0, if_pos (by simp [hm]; omega), if_pos (by omega), hw, hw2, Int.toNat_natCast, List.set_append_right _ _ (by omega), hm, Nat.sub_self, List.set_cons_zero]
    have e : marked 1 i ++ ((i + 1 : Nat) : Int) % 256 :: t = marked 1 (i + 1) ++ t := by
      rw [marked_snoc]
      simp [Nat.add_comm]
    rw [e, ih k (i + 1) t (by omega) (by omega) (by simpa using ht)]
    rw [show i + 1 + n = i + (n + 1) by omega]
theorem laws_markByteS_eq (t : List Int) (hl : t.length ≤ 1099511627776) (k : Nat) (hk : t.length + 1 ≤ k) : laws_markByteS.f k t 1 = some (((t.length + 1 : Nat) : Int), marked 1 t.length) := by
  have := laws_markByteS_l0 t.length k 0 t (by omega) hk rfl
  simpa [laws_markByteS.f, marked] using this
end Go.Proofs.YthaaboajbnkabaaDoor.P
end

section
set_option linter.unusedVariables false
set_option linter.unusedSimpArgs false
namespace Go.Proofs.YthaaboajbnkabaaDoor.P
open Go.RowKit Go.Proofs.YthaaboajbnkabaaDoorW.PrintWords Go.Proofs.YthaaboajbnkabaaDoorW.PrintLast Go.Proofs.YthaaboajbnkabaaDoorM
def mt (a : Int) : ByteArray := (laws_markText.f 11 a).getD ByteArray.empty
theorem markText_mt (k : Nat) (a : Int) (ha : a < 10000000000) (hk : 11 ≤ k) : laws_markText.f k a = some (mt a) := by
  obtain ⟨r, hr⟩ := laws_markText_eq 11 a ha (Nat.le_refl _)
  have h2 := at_rounds (fun k => laws_markText.mono a k) hk hr
  rw [h2]
  unfold mt
  rw [hr]; rfl
def mEnt (a : Nat) : S34 := ⟨mt a, ((a + 1 : Nat) : Int), mt ((a + 2 : Nat) : Int), (Int.tmod ((a + 3 : Nat) : Int) 3 == 0)⟩
def mE (a : Nat) : Nat → List S34
  | 0 => []
  | n + 1 => mEnt a :: mE (a + 4) n
theorem mE_length : ∀ n a, (mE a n).length = n
  | 0, _ => rfl
  | n + 1, a => by rw [mE, List.length_cons, mE_length n]
theorem mE_snoc : ∀ n a, mE a (n + 1) = mE a n ++ [mEnt (a + 4 * n)]
  | 0, a => rfl
  | n + 1, a => by
    rw [mE, mE_snoc n (a + 4), mE, show a + 4 + 4 * n = a + 4 * (n + 1) by omega]
    rfl
theorem mE_gd : ∀ n a i, i < n → gd (mE a n) i = mEnt (a + 4 * i)
  | 0, _, _, h => by omega
  | n + 1, a, 0, _ => rfl
  | n + 1, a, i + 1, h => by
    have := mE_gd n (a + 4) i (by omega)
    unfold gd at this ⊢
    rw [mE, List.getD_cons_succ, this, show a + 4 + 4 * i = a + 4 * (i + 1) by omega]
theorem rd_set (l : List S34) (i : Nat) (v : S34) (h : i < l.length) : rd_T34 (l.set i v) (i : Int) = v := by
  unfold rd_T34
  rw [Int.toNat_natCast, List.getD_eq_getElem?_getD, List.getElem?_set_self h]; rfl
theorem laws_markEntryS_run : ∀ (n k i : Nat) (t : List S34), i + n ≤ 1048576 → n + 15 ≤ k → t.length = n →
    laws_markEntryS.l0 k (mE 1 i ++ t) ((4 * i + 1 : Nat) : Int) (i : Int) = some (((4 * (i + n) + 1 : Nat) : Int), mE 1 (i + n)) := by
  intro n
  induction n with
  | zero =>
    intro k i t hl hk ht
    obtain ⟨k, rfl⟩ : ∃ k', k = k' + 1 := ⟨k - 1, by omega⟩
    obtain rfl := List.eq_nil_of_length_eq_zero ht
    have hm := mE_length i 1
    rw [laws_markEntryS.l0, if_neg (by simp [hm])]
    simp
  | succ n ih =>
    intro k i t hl hk ht
    obtain ⟨k, rfl⟩ : ∃ k', k = k' + 1 := ⟨k - 1, by omega⟩
    obtain ⟨x, t, rfl⟩ : ∃ x t', t = x :: t' := by cases t with
      | nil => cases ht
      | cons x t => exact ⟨x, t, rfl⟩
    have hm := mE_length i 1
    have hlen : i < (mE 1 i ++ x :: t).length := by simp [hm]
    have hw : wrap64 ((i : Int) + 1) = ((i + 1 : Nat) : Int) := by rw [wrap64_id (by omega) (by omega)]; omega
    have w1 : wrap64 (((4 * i + 1 : Nat) : Int) + 1) = ((4 * i + 1 + 1 : Nat) : Int) := by rw [wrap64_id (by omega) (by omega)]; omega
    have w2 : wrap64 (((4 * i + 1 + 1 : Nat) : Int) + 1) = ((4 * i + 1 + 2 : Nat) : Int) := by rw [wrap64_id (by omega) (by omega)]; omega
    have w3 : wrap64 (((4 * i + 1 + 2 : Nat) : Int) + 1) = ((4 * i + 1 + 3 : Nat) : Int) := by rw [wrap64_id (by omega) (by omega)]; omega
    have w4 : wrap64 (((4 * i + 1 + 3 : Nat) : Int) + 1) = ((4 * (i + 1) + 1 : Nat) : Int) := by rw [wrap64_id (by omega) (by omega)]; omega
    rw [laws_markEntryS.l0, if_pos (by omega), markText_mt k _ (by omega) (by omega), Option.bind_some, if_pos (by omega), Option.bind_some, Option.bind_some, w1, w2,
      markText_mt k _ (by omega) (by omega), Option.bind_some, Option.bind_some, w3, w4, hw, Int.toNat_natCast]
    have hl1 : ∀ v, i < ((mE 1 i ++ x :: t).set i v).length := fun v => by rw [List.length_set]; exact hlen
    simp only [rd_set _ i _ hlen, List.set_set]
    have e : (mE 1 i ++ x :: t).set i (⟨mt ((4 * i + 1 : Nat) : Int), ((4 * i + 1 + 1 : Nat) : Int), mt ((4 * i + 1 + 2 : Nat) : Int), (Int.tmod ((4 * i + 1 + 3 : Nat) : Int) 3 == 0)⟩ : S34) = mE 1 (i + 1) ++ t := by
      rw [List.set_append_right _ _ (by omega), hm, Nat.sub_self, List.set_cons_zero, mE_snoc, show 1 + 4 * i = 4 * i + 1 by omega]
      simp [mEnt]
    rw [e, ih k (i + 1) t (by omega) (by omega) (by simpa using ht), show i + 1 + n = i + (n + 1) by omega]
theorem laws_markEntryS_mE (t : List S34) (hl : t.length ≤ 1048576) (k : Nat) (hk : t.length + 15 ≤ k) : laws_markEntryS.f k t 1 = some (((4 * t.length + 1 : Nat) : Int), mE 1 t.length) := by
  have := laws_markEntryS_run t.length k 0 t (by omega) hk rfl
  simpa [laws_markEntryS.f, mE] using this
theorem laws_heldEntryS_l0 (m : Nat) (hl : m ≤ 1048576) : ∀ (n k i : Nat), i + n = m → n + 15 ≤ k → laws_heldEntryS.l0 k (mE 1 m) ((4 * i + 1 : Nat) : Int) (i : Int) = some ((4 * m + 1 : Nat) : Int) := by
  intro n
  induction n with
  | zero =>
    intro k i hi hk
    obtain ⟨k, rfl⟩ : ∃ k', k = k' + 1 := ⟨k - 1, by omega⟩
    obtain rfl : i = m := by omega
    rw [laws_heldEntryS.l0, if_neg (by rw [mE_length]; omega)]
  | succ n ih =>
    intro k i hi hk
    obtain ⟨k, rfl⟩ : ∃ k', k = k' + 1 := ⟨k - 1, by omega⟩
    have hw : wrap64 ((i : Int) + 1) = ((i + 1 : Nat) : Int) := by rw [wrap64_id (by omega) (by omega)]; omega
    have w1 : wrap64 (((4 * i + 1 : Nat) : Int) + 1) = ((4 * i + 1 + 1 : Nat) : Int) := by rw [wrap64_id (by omega) (by omega)]; omega
    have w2 : wrap64 (((4 * i + 1 + 1 : Nat) : Int) + 1) = ((4 * i + 1 + 2 : Nat) : Int) := by rw [wrap64_id (by omega) (by omega)]; omega
    have w3 : wrap64 (((4 * i + 1 + 2 : Nat) : Int) + 1) = ((4 * i + 1 + 3 : Nat) : Int) := by rw [wrap64_id (by omega) (by omega)]; omega
    have w4 : wrap64 (((4 * i + 1 + 3 : Nat) : Int) + 1) = ((4 * (i + 1) + 1 : Nat) : Int) := by rw [wrap64_id (by omega) (by omega)]; omega
    have hr : gd (mE 1 m) i = mEnt (4 * i + 1) := by rw [mE_gd m 1 i (by omega), Nat.add_comm]
    rw [laws_heldEntryS.l0, if_pos (by rw [mE_length]; omega), if_pos (by omega), markText_mt k _ (by omega) (by omega), Option.bind_some, w1, w2, markText_mt k _ (by omega) (by omega), Option.bind_some, w3, w4, hw, rd_gd, hr]
    simp only [mEnt, if_true, bne_self_eq_false, Bool.false_eq_true, if_false]
    exact ih k (i + 1) (by omega) (by omega)
theorem laws_heldEntryS_mE (m : Nat) (hl : m ≤ 1048576) (k : Nat) (hk : m + 15 ≤ k) : laws_heldEntryS.f k (mE 1 m) 1 = some ((4 * m + 1 : Nat) : Int) :=
  laws_heldEntryS_l0 m hl m k 0 (by omega) hk
end Go.Proofs.YthaaboajbnkabaaDoor.P
end

section
set_option linter.unusedVariables false
set_option linter.unusedSimpArgs false
namespace Go.Proofs.YthaaboajbnkabaaDoor.P
open Go.RowKit Go.Proofs.YthaaboajbnkabaaDoorW.PrintWords Go.Proofs.YthaaboajbnkabaaDoorW.PrintLast Go.Proofs.YthaaboajbnkabaaDoorM
def rdN : Nat → List Int → Nat → Nat → Nat → Bool → Nat × Nat × Bool
  | 0, _, _, _, i, _ => (0, i, true)
  | m + 1, l, n, j, i, b => if l.length ≤ i then (0, i, true) else if rd l (i : Int) < 128 then (n + (rd l (i : Int) % 128).toNat * 2 ^ (7 * j), i + 1, b) else rdN m l (n + (rd l (i : Int) % 128).toNat * 2 ^ (7 * j)) (j + 1) (i + 1) b
theorem rd_step (n j : Nat) (c : Int) (hc : 0 ≤ c ∧ c < 256) (hj : j ≤ 3) (hn : n < 2 ^ (7 * j)) :
    wrap64 ((n : Int) + shl .i64 (wrap64 (Go.bits .and .u8 c 127)) ((7 * j : Nat) : Int)) = ((n + (c % 128).toNat * 2 ^ (7 * j) : Nat) : Int) ∧ n + (c % 128).toNat * 2 ^ (7 * j) < 2 ^ (7 * (j + 1)) := by
  have h1 : Go.bits .and .u8 c 127 = c % 128 := bits_mask .u8 8 (by decide) wraps_u8 7 (by decide) c (by omega) (by omega)
  have h2 : wrap64 (c % 128) = c % 128 := wrap64_id (by omega) (by omega)
  obtain ⟨m, hm⟩ : ∃ m : Nat, c % 128 = m := ⟨(c % 128).toNat, by omega⟩
  have hm2 : m < 128 := by omega
  have h3 : shl .i64 (m : Int) ((7 * j : Nat) : Int) = ((m * 2 ^ (7 * j) : Nat) : Int) := by
    show IntKind.i64.wrap ((m : Int) * 2 ^ (min ((7 * j : Nat) : Int).toNat 64)) = _
    have e : min ((7 * j : Nat) : Int).toNat 64 = 7 * j := by rw [Int.toNat_natCast]; omega
    have hp : 2 ^ (7 * j) ≤ 2097152 := Nat.le_trans (Nat.pow_le_pow_right (by decide) (show 7 * j ≤ 21 by omega)) (by decide)
    have hmp : m * 2 ^ (7 * j) ≤ 127 * 2 ^ (7 * j) := Nat.mul_le_mul_right _ (by omega)
    rw [e]
    have e2 : ((m : Int) * 2 ^ (7 * j)) = ((m * 2 ^ (7 * j) : Nat) : Int) := by push_cast; rfl
    rw [e2, i64_w]
    generalize m * 2 ^ (7 * j) = q at hmp ⊢
    generalize 2 ^ (7 * j) = p at hmp hp
    exact wrap64_id (by omega) (by omega)
  rw [h1, h2, hm, h3, Int.toNat_natCast, p7]
  have hp : 2 ^ (7 * j) ≤ 2097152 := Nat.le_trans (Nat.pow_le_pow_right (by decide) (show 7 * j ≤ 21 by omega)) (by decide)
  have hmp : m * 2 ^ (7 * j) ≤ 127 * 2 ^ (7 * j) := Nat.mul_le_mul_right _ (by omega)
  generalize m * 2 ^ (7 * j) = q at hmp ⊢
  generalize 2 ^ (7 * j) = p at hmp hp hn ⊢
  exact ⟨by rw [wrap64_id (by omega) (by omega)]; push_cast; rfl, by omega⟩
theorem l10Read_l0 {l : List Int} (hb : inB l) (hl : l.length ≤ 1099511627776) : ∀ (m j n i k : Nat) (b : Bool), m + j = 4 → n < 2 ^ (7 * j) → m < k → i ≤ l.length →
    spec_l10Read.l0 k (n : Int) ((7 * j : Nat) : Int) l (i : Int) b = some (((rdN m l n j i b).1 : Int), ((rdN m l n j i b).2.1 : Int), (rdN m l n j i b).2.2)
  | 0, j, n, i, k, b, hj, hn, hk, hi => by
    obtain ⟨k, rfl⟩ : ∃ k', k = k' + 1 := ⟨k - 1, by omega⟩
    obtain rfl : j = 4 := by omega
    rw [spec_l10Read.l0, if_neg (by decide)]
    rfl
  | m + 1, j, n, i, k, b, hj, hn, hk, hi => by
    obtain ⟨k, rfl⟩ : ∃ k', k = k' + 1 := ⟨k - 1, by omega⟩
    rw [spec_l10Read.l0, if_pos (by omega), rdN]
    by_cases hend : l.length ≤ i
    · rw [if_pos (by omega), if_pos hend]
      rfl
    · have hin := rd_in hb (show i < l.length by omega)
      have hs := rd_step n j _ hin (by omega) hn
      rw [if_neg (by omega), if_pos (by omega), if_pos (by omega), if_pos (by omega), if_neg hend, hs.1, wrap64_id (by omega) (by omega)]
      by_cases hlt : rd l (i : Int) < 128
      · rw [if_pos hlt, if_pos hlt]
        rfl
      · rw [if_neg hlt, if_neg hlt]
        have e : IntKind.u64.wrap (((7 * j : Nat) : Int) + 7) = ((7 * (j + 1) : Nat) : Int) := by
          have : IntKind.u64.wrap (((7 * j : Nat) : Int) + 7) = (((7 * j : Nat) : Int) + 7) % 18446744073709551616 := rfl
          rw [this]; omega
        rw [e]
        exact l10Read_l0 hb hl m (j + 1) _ (i + 1) k b (by omega) hs.2 (by omega) (by omega)
theorem l10Read_eq {l : List Int} (hb : inB l) (hl : l.length ≤ 1099511627776) (i k : Nat) (b : Bool) (hk : 4 < k) (hi : i ≤ l.length) :
    spec_l10Read.f k l (i : Int) b = some (((rdN 4 l 0 0 i b).1 : Int), ((rdN 4 l 0 0 i b).2.1 : Int), (rdN 4 l 0 0 i b).2.2) := by
  have := l10Read_l0 hb hl 4 0 0 i k b rfl (by decide) hk hi
  exact this
theorem rdN_le {l : List Int} (hb : inB l) : ∀ (m n j i : Nat) (b : Bool), m + j = 4 → n < 2 ^ (7 * j) → i ≤ l.length → (rdN m l n j i b).1 < 268435456 ∧ (rdN m l n j i b).2.1 ≤ l.length
  | 0, n, j, i, b, hj, hn, hi => ⟨by rw [rdN]; exact (by decide : 0 < 268435456), by rw [rdN]; exact hi⟩
  | m + 1, n, j, i, b, hj, hn, hi => by
    rw [rdN]
    by_cases hend : l.length ≤ i
    · rw [if_pos hend]; exact ⟨(by decide : 0 < 268435456), hi⟩
    · have hin := rd_in hb (show i < l.length by omega)
      have hs := rd_step n j _ hin (by omega) hn
      rw [if_neg hend]
      by_cases hlt : rd l (i : Int) < 128
      · rw [if_pos hlt]
        exact ⟨Nat.lt_of_lt_of_le hs.2 (Nat.le_trans (Nat.pow_le_pow_right (by decide) (show 7 * (j + 1) ≤ 28 by omega)) (by decide)), by show i + 1 ≤ l.length; omega⟩
      · rw [if_neg hlt]
        exact rdN_le hb m _ (j + 1) (i + 1) b (by omega) hs.2 (by omega)
theorem rdN_vi {l : List Int} : ∀ (m v n j i k : Nat) (b : Bool) (r : List Int), l.drop i = vi m v ++ r → v < 128 ^ m → 0 < m → m ≤ k →
    rdN k l n j i b = (n + v * 2 ^ (7 * j), i + (vi m v).length, b)
  | 0, _, _, _, _, _, _, _, _, _, h, _ => absurd h (by decide)
  | m + 1, v, n, j, i, k, b, r, hd, hv, _, hk => by
    obtain ⟨k, rfl⟩ : ∃ k', k = k' + 1 := ⟨k - 1, by omega⟩
    rw [rdN]
    rw [vi] at hd ⊢
    by_cases h : 128 ≤ v
    · rw [if_pos h, List.cons_append] at hd
      obtain ⟨hi, hr, hd2⟩ := drop_cons hd
      have hm : 0 < m := by
        rcases Nat.eq_zero_or_pos m with rfl | h0
        · simp at hv; omega
        · exact h0
      rw [if_neg (by omega), hr, if_neg (by omega), if_pos h, rdN_vi m (v / 128) _ (j + 1) (i + 1) k b r hd2 (by rw [Nat.pow_succ] at hv; omega) hm (by omega), p7]
      refine Prod.ext ?_ (Prod.ext ?_ rfl)
      · have e1 : (((v % 128 + 128 : Nat) : Int) % 128).toNat = v % 128 := by omega
        simp only [e1]
        generalize 2 ^ (7 * j) = p
        have e2 : v / 128 * (p * 128) = (v / 128 * 128) * p := by rw [Nat.mul_comm p 128, ← Nat.mul_assoc]
        rw [e2, Nat.add_assoc, ← Nat.add_mul]
        congr 2
        omega
      · simp only [List.length_cons]
        omega
    · rw [if_neg h, List.singleton_append] at hd
      obtain ⟨hi, hr, hd2⟩ := drop_cons hd
      have e1 : ((v : Int) % 128).toNat = v := by omega
      rw [if_neg (by omega), hr, if_pos (by omega), if_neg h, e1]
      rfl
theorem cutL {l : List Int} (a b : Nat) : strOfNums ((l.take (a + b)).drop a) = (strOfNums l).extract a (a + b) := by
  apply bs_inj
  rw [bs_extract, strOf_bs, strOf_bs, List.drop_take, Nat.add_sub_cancel_left, List.map_take, List.map_drop]
def txN (l : List Int) (i : Nat) (b : Bool) : ByteArray × Nat × Bool :=
  if (rdN 4 l 0 0 i b).2.2 = true then (⟨#[]⟩, (rdN 4 l 0 0 i b).2.1, true) else if l.length < (rdN 4 l 0 0 i b).1 + (rdN 4 l 0 0 i b).2.1 then (⟨#[]⟩, (rdN 4 l 0 0 i b).2.1, true)
  else ((strOfNums l).extract (rdN 4 l 0 0 i b).2.1 ((rdN 4 l 0 0 i b).2.1 + (rdN 4 l 0 0 i b).1), (rdN 4 l 0 0 i b).2.1 + (rdN 4 l 0 0 i b).1, false)
theorem txt_eq {l : List Int} (hb : inB l) (hl : l.length ≤ 1099511627776) (i k : Nat) (b : Bool) (hk : 4 < k) (hi : i ≤ l.length) :
    spec_UnpackTree.txt k l (i : Int) b = some ((txN l i b).1, ((txN l i b).2.1 : Int), (txN l i b).2.2) ∧ (txN l i b).1.size ≤ l.length ∧ (txN l i b).2.1 ≤ l.length := by
  obtain ⟨h1, h2⟩ := rdN_le hb 4 0 0 i b rfl (by decide) hi
  unfold spec_UnpackTree.txt
  rw [l10Read_eq hb hl i k b hk hi, Option.bind_some]
  simp only []
  rw [if_pos (by omega)]
  unfold txN
  generalize rdN 4 l 0 0 i b = q at h1 h2 ⊢
  obtain ⟨n, i1, b1⟩ := q
  simp only [] at h1 h2 ⊢
  cases b1 with
  | true => exact ⟨rfl, Nat.zero_le _, h2⟩
  | false =>
    rw [if_neg (show ¬ (false = true) by decide), if_neg (show ¬ (false = true) by decide)]
    by_cases hlt : l.length < n + i1
    · rw [if_pos (by omega), if_pos hlt]
      exact ⟨rfl, Nat.zero_le _, h2⟩
    · rw [if_neg (by omega), if_neg hlt]
      refine ⟨?_, by rw [ByteArray.size_extract, strOf_size]; show _ ≤ _; omega, by show i1 + n ≤ l.length; omega⟩
      have e1 : ((i1 : Int) + (n : Int)).toNat = i1 + n := by omega
      rw [e1, Int.toNat_natCast, cutL]
      rfl
theorem txN_tx {l : List Int} {i : Nat} {p : ByteArray} {r : List Int} (h : l.drop i = tx p ++ r) (hp : p.size ≤ 1048576) : txN l i false = (p, i + (tx p).length, false) := by
  have hl := len_app h (tx_pos p)
  have htl : (tx p).length = (vi 4 p.size).length + p.size := by rw [tx, List.length_append, bytesOf_length]
  have h0 : l.drop i = vi 4 p.size ++ (bytesOf p ++ r) := by rw [h, tx, List.append_assoc]
  have h1 := drop_app h0
  unfold txN
  rw [rdN_vi 4 p.size 0 0 i 4 false _ h0 (by omega) (by decide) (by decide)]
  simp only [Nat.zero_add, Nat.mul_zero, Nat.pow_zero, Nat.mul_one]
  rw [if_neg (by decide), if_neg (by omega), cut_is h1, htl, Nat.add_assoc]
theorem unp_pk {l : List Int} (hb : inB l) (hl : l.length ≤ 1099511627776) (k : Nat) (hk : 4 < k) (t : List S34) (hok : treeOk t) (hz : ∀ i, (gd t i).f0.size ≤ 1048576 ∧ (gd t i).f2.size ≤ 1048576) : ∀ (n j i q : Nat), l.drop i = pk t n j → j + n = t.length → n < q →
    spec_UnpackTree.unp q k l (i : Int) false (t.take j) n = some (some (t, false))
  | 0, j, i, q, hd, hj, hq => by
    obtain ⟨q, rfl⟩ : ∃ q', q = q' + 1 := ⟨q - 1, by omega⟩
    rw [spec_UnpackTree.unp, if_neg (by omega), List.take_of_length_le (by omega)]
  | n + 1, j, i, q, hd, hj, hq => by
    obtain ⟨q, rfl⟩ : ∃ q', q = q' + 1 := ⟨q - 1, by omega⟩
    have hjl : j < t.length := by omega
    rw [pk, List.cons_append, List.append_assoc] at hd
    obtain ⟨hi, hr, hd2⟩ := drop_cons hd
    have hd3 := drop_app hd2
    have hd4 := drop_app hd3
    have hent : (⟨(gd t j).f0, rd l (i : Int) % 16, (gd t j).f2, (rd l (i : Int) / 16 == 1)⟩ : S34) = gd t j := by
      have hk := kb_kind (hok.2 j hjl).1
      rw [hr, hk.1, hk.2]
    have hin := rd_in hb hi
    have hx1 := len_app hd2 (tx_pos _)
    have hx2 := len_app hd3 (tx_pos _)
    have t1 := (txt_eq hb hl (i + 1) k false hk (by omega)).1
    have t2 := (txt_eq hb hl (i + 1 + (tx (gd t j).f0).length) k false hk (by omega)).1
    rw [txN_tx hd2 (hz j).1] at t1
    rw [txN_tx hd3 (hz j).2] at t2
    have e1 : (i : Int) + 1 = ((i + 1 : Nat) : Int) := by push_cast; rfl
    rw [spec_UnpackTree.unp, if_pos (by omega), if_neg (by decide), if_neg (by omega), if_pos (by omega), e1, t1, Option.bind_some]
    simp only []
    rw [t2, Option.bind_some]
    simp only []
    rw [hent, Nat.add_sub_cancel]
    have e : t.take j ++ [gd t j] = t.take (j + 1) := by rw [gd_get t j hjl, List.take_append_getElem hjl]
    rw [e]
    exact unp_pk hb hl k hk t hok hz n (j + 1) _ q hd4 (by omega) (by omega)
theorem unp_some {l : List Int} (hb : inB l) (hl : l.length ≤ 1099511627776) (k : Nat) (hk : 4 < k) : ∀ (q i : Nat) (b : Bool) (t : List S34) (n : Nat), n < q → i ≤ l.length → smalls l.length t →
    ∃ o, spec_UnpackTree.unp q k l (i : Int) b t n = some o ∧ ∀ p, o = some p → smalls l.length p.1
  | 0, _, _, _, _, h, _, _ => by omega
  | q + 1, i, b, t, n, h, hi, hs => by
    rw [spec_UnpackTree.unp]
    by_cases hn : 0 < n
    case neg => rw [if_neg hn]; exact ⟨_, rfl, fun p e => by injection e with e; subst e; exact hs⟩
    rw [if_pos hn]
    cases b with
    | true => exact ⟨_, rfl, fun p e => by injection e with e; subst e; exact hs⟩
    | false =>
      rw [if_neg (by decide)]
      by_cases hend : (l.length : Int) ≤ i
      · rw [if_pos hend]; exact ⟨_, rfl, fun p e => by cases e⟩
      · have hin := rd_in hb (show i < l.length by omega)
        obtain ⟨t1, s1, l1⟩ := txt_eq hb hl (i + 1) k false hk (by omega)
        obtain ⟨t2, s2, l2⟩ := txt_eq hb hl (txN l (i + 1) false).2.1 k (txN l (i + 1) false).2.2 hk l1
        have e1 : (i : Int) + 1 = ((i + 1 : Nat) : Int) := by push_cast; rfl
        rw [if_neg hend, if_pos (by omega), e1, t1, Option.bind_some]
        simp only []
        rw [t2, Option.bind_some]
        simp only []
        refine unp_some hb hl k hk q _ _ _ (n - 1) (by omega) l2 ?_
        intro e he
        rcases List.mem_append.1 he with he | he
        · exact hs e he
        · rw [List.mem_singleton] at he
          subst he
          exact ⟨s1, s2⟩
theorem strOf_of_take {l : List Int} (h : l.take 4 = [76, 65, 82, 49]) : (strOfNums (l.take 4)).toList = [76, 65, 82, 49] := by
  rw [h, toList_bs]; rfl
theorem spec_unpacks {l : List Int} {t : List S34} (h : isTree t l) (hb : inB l) (hl : l.length ≤ 1048576) (k : Nat) (hk : 2110000 ≤ k) : spec_UnpackTree.f k l = some (t, true) := by
  obtain ⟨hok, hsm, hp⟩ := h
  have hz := smalls_gd hsm
  have h500 := hok.1
  obtain ⟨h4, htk, h4l⟩ := head_is hp
  have h5 := drop_app h4
  have h6 := l10Read_eq hb (by omega) 4 k false (by omega) h4l
  rw [rdN_vi 4 t.length 0 0 4 4 false _ h4 (by omega) (by decide) (by decide)] at h6
  simp only [Nat.zero_add, Nat.mul_zero, Nat.pow_zero, Nat.mul_one] at h6
  unfold spec_UnpackTree.f
  rw [if_pos (by omega), if_neg (by omega), if_pos (strOf_of_take htk)]
  rw [show ((4 : Nat) : Int) = 4 from rfl] at h6
  rw [h6, Option.bind_some]
  simp only []
  rw [if_neg (by omega), if_pos (by omega), Int.toNat_natCast]
  have hu := unp_pk hb (by omega) k (by omega) t hok hz t.length 0 _ 501 h5 (by omega) (by omega)
  rw [List.take_zero] at hu
  rw [hu, Option.bind_some]
  show (if (false = true) then some ([], false) else (spec_TreeOk.f k t).bind fun ok => if ok = true then (spec_PackTree.f k t).bind fun b => (spec_l10Same.f b l).bind fun sm => if sm = true then some (t, true) else some ([], false) else some ([], false)) = _
  obtain ⟨b1, hi1, hi2⟩ := spec_TreeOk_eq t (fun i => (hz i).1) k (by omega)
  rw [if_neg (by decide), hi1, Option.bind_some, if_pos (hi2.2 hok)]
  rcases pack_both t hz k hk with ⟨_, _, h1⟩ | ⟨h0, _, _⟩
  · have hs : spec_l10Same.f (packed t) l = some true := by
      unfold spec_l10Same.f
      rw [hp]; simp
    rw [h1, Option.bind_some, hs, Option.bind_some, if_pos rfl]
  · exact absurd hok h0
theorem spec_tells {l : List Int} (hb : inB l) (hl : l.length ≤ 1048576) (k : Nat) (hk : 2110000 ≤ k) : spec_UnpackTree.f k l = some ([], false) ∨ ∃ t, spec_UnpackTree.f k l = some (t, true) ∧ isTree t l := by
  unfold spec_UnpackTree.f
  rw [if_pos (by omega)]
  by_cases h4 : l.length < 4
  · rw [if_pos h4]; exact .inl rfl
  rw [if_neg h4]
  by_cases hp : (strOfNums (l.take 4)).toList = [76, 65, 82, 49]
  case neg => rw [if_neg hp]; exact .inl rfl
  rw [if_pos hp]
  have h6 := l10Read_eq hb (by omega) 4 k false (by omega) (by omega)
  rw [show ((4 : Nat) : Int) = 4 from rfl] at h6
  obtain ⟨h7, h8⟩ := rdN_le hb 4 0 0 4 false rfl (by decide) (by omega)
  rw [h6, Option.bind_some]
  simp only []
  generalize rdN 4 l 0 0 4 false = q at h7 h8 ⊢
  obtain ⟨n, i, b⟩ := q
  simp only [] at h7 h8 ⊢
  by_cases hbig : 500 < (n : Int)
  · rw [if_pos hbig]; exact .inl rfl
  rw [if_neg hbig, if_pos (by omega), Int.toNat_natCast]
  obtain ⟨o, h2, h3⟩ := unp_some hb (by omega) k (by omega) 501 i b [] n (by omega) h8 (fun e he => by cases he)
  rw [h2, Option.bind_some]
  cases o with
  | none => exact .inl rfl
  | some q =>
    obtain ⟨t, b⟩ := q
    have hsm : smalls 1048576 t := fun e he => by
      have := h3 _ rfl e he
      omega
    have hz := smalls_gd hsm
    cases b with
    | true => exact .inl rfl
    | false =>
      show (if (false = true) then some ([], false) else (spec_TreeOk.f k t).bind fun ok => if ok = true then (spec_PackTree.f k t).bind fun b => (spec_l10Same.f b l).bind fun sm => if sm = true then some (t, true) else some ([], false) else some ([], false)) = _ ∨ ∃ t', (if (false = true) then some ([], false) else (spec_TreeOk.f k t).bind fun ok => if ok = true then (spec_PackTree.f k t).bind fun b => (spec_l10Same.f b l).bind fun sm => if sm = true then some (t, true) else some ([], false) else some ([], false)) = some (t', true) ∧ isTree t' l
      obtain ⟨b1, hi1, hi2⟩ := spec_TreeOk_eq t (fun i => (hz i).1) k (by omega)
      rw [if_neg (by decide), hi1, Option.bind_some]
      by_cases hok : treeOk t
      case neg => rw [if_neg (fun h => hok (hi2.1 h))]; exact .inl rfl
      rw [if_pos (hi2.2 hok)]
      rcases pack_both t hz k hk with ⟨_, _, h5⟩ | ⟨h0, _, _⟩
      · rw [h5, Option.bind_some]
        by_cases he : (strOfNums (packed t)).toList = (strOfNums l).toList
        · have hs : spec_l10Same.f (packed t) l = some true := by
            unfold spec_l10Same.f
            rw [he]; simp
          rw [hs, Option.bind_some, if_pos rfl]
          exact .inr ⟨t, rfl, hok, hsm, strOf_inj (packed_in t) hb he⟩
        · have hs : spec_l10Same.f (packed t) l = some false := by
            unfold spec_l10Same.f
            simpa using he
          rw [hs, Option.bind_some, if_neg (by decide)]; exact .inl rfl
      · exact absurd hok h0
theorem unpack_both {l : List Int} (hb : inB l) (hl : l.length ≤ 1048576) : ∃ t b, t.length ≤ 500 ∧ ∀ k, 2110000 ≤ k → impl_UnpackTree.f k l = some (t, b) ∧ spec_UnpackTree.f k l = some (t, b) := by
  rcases impl_tells hb hl 2110000 (by omega) with h | ⟨t, h, ht⟩
  · refine ⟨[], false, by simp, fun k hk => ?_⟩
    have hno : ∀ t, ¬ isTree t l := fun t ht => by
      have := impl_unpacks ht hb hl 2110000 (by omega)
      rw [h] at this
      injection this with this
      cases this
    refine ⟨?_, ?_⟩
    · rcases impl_tells hb hl k hk with h1 | ⟨t, _, ht⟩
      · exact h1
      · exact absurd ht (hno t)
    · rcases spec_tells hb hl k hk with h1 | ⟨t, _, ht⟩
      · exact h1
      · exact absurd ht (hno t)
  · exact ⟨t, true, ht.1.1, fun k hk => ⟨impl_unpacks ht hb hl k hk, spec_unpacks ht hb hl k hk⟩⟩
theorem toByteS_l0 (l : List Int) (hl : l.length ≤ 1048576) : ∀ (n k i : Nat), n + 1 ≤ k → i + n = l.length → laws_toByteS.l0 k l (l.take i ++ List.replicate n 0) (i : Int) = some l
  | 0, k, i, hk, hi => by
    obtain ⟨k, rfl⟩ : ∃ k', k = k' + 1 := ⟨k - 1, by omega⟩
    rw [laws_toByteS.l0, if_neg (by omega), List.replicate_zero, List.append_nil, List.take_of_length_le (by omega)]
  | n + 1, k, i, hk, hi => by
    obtain ⟨k, rfl⟩ : ∃ k', k = k' + 1 := ⟨k - 1, by omega⟩
    have hlt : i < l.length := by omega
    have hll : (l.take i ++ List.replicate (n + 1) (0 : Int)).length = l.length := by simp; omega
    rw [laws_toByteS.l0, if_pos (by omega), if_pos (by omega), if_pos (by rw [hll]; omega), Int.toNat_natCast, wrap64_id (by omega) (by omega)]
    have e : (l.take i ++ List.replicate (n + 1) 0).set i (rd l (i : Int)) = l.take (i + 1) ++ List.replicate n 0 := by
      have hli : (l.take i).length = i := by rw [List.length_take]; omega
      rw [List.set_append_right _ _ (by omega), hli, Nat.sub_self, List.replicate_succ, List.set_cons_zero, rd_at l i hlt, ← List.take_append_getElem hlt, List.append_assoc]
      rfl
    rw [e]
    exact toByteS_l0 l hl n k (i + 1) (by omega) (by omega)
theorem toByteS_eq (l : List Int) (hl : l.length ≤ 1048576) (k : Nat) (hk : l.length + 1 ≤ k) : laws_toByteS.f k l = some l := by
  unfold laws_toByteS.f
  rw [if_pos (by omega), Int.toNat_natCast, if_pos (by omega)]
  have := toByteS_l0 l hl l.length k 0 hk (by omega)
  simpa using this
theorem inB_of {l : List Int} (hg : ∀ a ∈ l, (Lit.int .u8 a).wf = true) : inB l := fun x hx => by
  have h := hg x hx
  have h2 : (decide ((0 : Int) ≤ x) && decide (x ≤ 255)) = true := h
  simp only [Bool.and_eq_true, decide_eq_true_eq] at h2
  omega
theorem FnExactUnpackTree_pure (l : List Int) (hb : inB l) : ∃ k, laws_FnExactUnpackTree.f k l = some true := by
  refine ⟨5000000, ?_⟩
  unfold laws_FnExactUnpackTree.f
  by_cases hbig : (l.length : Int) > 1048576
  · rw [if_pos hbig]
  rw [if_neg hbig]
  have hl : l.length ≤ 1048576 := by omega
  obtain ⟨t, b, ht, hu⟩ := unpack_both hb hl
  rw [toByteS_eq l hl _ (by omega), Option.bind_some, (hu _ (by omega)).2, Option.bind_some, Option.bind_some, (hu _ (by omega)).1, Option.bind_some, laws_eqEntryS_refl t (by omega) _ (by omega), Option.bind_some, if_pos rfl]
  have hbb : (b != b) = false := by simp
  simp only [hbb]
  rw [show (5000000 : Nat) = 4999999 + 1 from rfl, laws_FnExactUnpackTree.j0, if_neg (by decide), toByteS_eq l hl _ (by omega), Option.bind_some, laws_eqByteS_refl l (by omega) _ (by omega), Option.bind_some, if_pos rfl, laws_markByteS_eq l (by omega) _ (by omega), Option.bind_some]
  simp only []
  rw [if_neg (by omega), laws_eqEntryS_refl t (by omega) _ (by omega), Option.bind_some, if_pos rfl, hbb]
  rw [show (4999999 : Nat) = 4999998 + 1 from rfl, laws_FnExactUnpackTree.j1, if_neg (by decide), laws_markEntryS_mE t (by omega) _ (by omega), Option.bind_some]
  simp only []
  rw [laws_heldEntryS_mE t.length (by omega) _ (by omega), Option.bind_some, if_neg (by omega), if_pos rfl, toByteS_eq l hl _ (by omega), Option.bind_some, (hu _ (by omega)).1, Option.bind_some]
  simp only []
  rw [laws_eqEntryS_refl t (by omega) _ (by omega), Option.bind_some, if_pos rfl, hbb]
  rw [show (4999998 : Nat) = 4999997 + 1 from rfl, laws_FnExactUnpackTree.j2, if_neg (by decide), laws_heldEntryS_mE t.length (by omega) _ (by omega), Option.bind_some, if_neg (by omega), if_pos rfl]
end Go.Proofs.YthaaboajbnkabaaDoor.P
end

section
namespace Go.Proofs.YthaaboajbnkabaaDoor.fnExactUnpackTree
open Go.ChangeShapes Go.WideShapes Go.ChangeAt Go.RowKit Go.Proofs.YthaaboajbnkabaaDoorM
set_option linter.unusedVariables false
set_option maxRecDepth 100000
theorem own : ownKnob Tryd.prog.godebug = none := by kernel_rfl
theorem laidOut : laidOutB Tryd.prog = true := by kernel_rfl
theorem env {W : World} (h : W.ShapedOpen Tryd.prog) : EnvW W :=
  ⟨Go.Proofs.cell_of_shapedOpen_int (zero := #[.int .i64 0]) (t := 3) h (of_decide_eq_true (by kernel_rfl)) (by kernel_rfl) rfl (by kernel_rfl) (by kernel_rfl) Tryd.underlying3⟩
theorem contract (H : Type) (enc : TypeId × Value → H) (W : World) (base : Nat) (args : Array Value) (ds gs : List (DataW H)) (before : List MemPlace)
    (hval0 : ∀ (j : Nat) t v, Tryd.f3.params[j]? = some t → args[j]? = some v → Value.okWide Tryd.prog W .any base t v)
    (hW : DataW.Whole enc Tryd.prog Tryd.f3.params.toList Rows.fnExactUnpackTreeSpec.vars false W args.toList ds gs before) (hS : W.ShapedOpen Tryd.prog) :
    Calls Tryd.prog 3 args W fun e W' => ∃ v, e = .returned v ∧ Rows.fnExactUnpackTreeSpec.post enc Tryd.prog Tryd.f3 false true false false W args v W' := by
  have hval := hval0
  have hW' := hW
  obtain ⟨p, q, hA0, hV, rfl, hfz, hnd⟩ := hW
  have hA : DataW.TrodAll enc Tryd.prog W 0 (fun _ => true) true Tryd.f3.params.toList args.toList ds p := hA0
  rw [Tryd.params3] at hA hval
  obtain ⟨v0, vs0, d0, ds0, p0, q0, hargs, rfl, rfl, h0, r0⟩ := trodAll_cons hA
  obtain ⟨rfl, rfl, rfl⟩ := trodAll_nil r0
  obtain rfl : args = #[v0] := by cases args; simp_all
  obtain ⟨rfl, rfl⟩ := trodVars_none hV
  have k0 := h0
  have lt0 : ∀ x ∈ p0, x.block < W.heap.size := by obtain ⟨m, hm⟩ := k0; exact DataW.trod_lt m _ _ _ hm
  obtain ⟨l0, A0, c0, rfl, hc0, hr0, hl0, hg0⟩ := Opn.argSlice Tryd.underlying22 (by kernel_rfl) (Opn.int Tryd.underlying5) (hval 0 22 v0 rfl rfl) h0
  clear hA0 hval0
  obtain ⟨k, hk⟩ := P.FnExactUnpackTree_pure l0 (P.inB_of hg0)
  refine (P.laws_FnExactUnpackTree.calls k A0 c0 l0 true W (env hS) hr0 hc0 hk).mono fun e W' ⟨he, bel⟩ => ?_
  subst he
  exact ⟨_, rfl, _, _, _, [], _, [], hW', trodAll_mk1 (shut_bool Tryd.underlying4 _), (trodAll_cons_mk (Below.trod laidOut (by kernel_rfl) (of_decide_eq_true (by kernel_rfl)) k0 bel lt0) trodAll_mk0), rfl, bel.frame _, fun h => by cases h⟩
noncomputable def laidWorld (os : Os) : World :=
  { World.holding Tryd.prog os ⟨#[], #[], []⟩ with heap := (Array.modify (Array.modify (World.holding Tryd.prog os ⟨#[], #[], []⟩).heap 2 (fun o => match o with
      | .cells _ t frozen => .cells #[(.int .u8 128), (.int .u8 191), (.int .u8 160), (.int .u8 191), (.int .u8 128), (.int .u8 159), (.int .u8 144), (.int .u8 191), (.int .u8 128), (.int .u8 143), (.int .u8 0), (.int .u8 0), (.int .u8 0), (.int .u8 0), (.int .u8 0), (.int .u8 0), (.int .u8 0), (.int .u8 0), (.int .u8 0), (.int .u8 0), (.int .u8 0), (.int .u8 0), (.int .u8 0), (.int .u8 0), (.int .u8 0), (.int .u8 0), (.int .u8 0), (.int .u8 0), (.int .u8 0), (.int .u8 0), (.int .u8 0), (.int .u8 0)] t frozen
      | o => o)) 1 (fun o => match o with
      | .cells _ t frozen => .cells (Pinned.utf8FirstZ.map fun (n : Nat) => Value.int .u8 n).toArray t frozen
      | o => o)) }
theorem laid_met (os : Os) : laidMet Tryd.prog Rows.fnExactUnpackTreeRow.laid ((laidWorld os).forCall (fun _ _ => 0) ⟨#[], #[.slice none 0 0], []⟩).memory :=
  laidMet_of_run' 8 (by kernel_rfl) (by kernel_rfl)
theorem reads (os : Os) {H : Type} (enc : TypeId × Value → H) : ∃ places, DataW.whole enc Tryd.prog ((laidWorld os).forCall (fun _ _ => 0) ⟨#[], #[.slice none 0 0], []⟩).memory Tryd.f3.params.toList Rows.fnExactUnpackTreeSpec.vars false (#[.slice none 0 0] : Array Value).toList 8 = some ([.nil], [], places) :=
  ⟨[], by kernel_rfl⟩
theorem lifted (os : Os) (started : os.Started) (H : Type) (enc : TypeId × Value → H) (F : Stop.Interp) :
    ReturnsInHanded {} Tryd.checked os 3 .any ((OpenSpec.ofChange Rows.fnExactUnpackTreeSpec).preRow enc Tryd.prog Tryd.f3 Rows.fnExactUnpackTreeRow.domain false Rows.fnExactUnpackTreeRow.laid) (((OpenSpec.ofChange Rows.fnExactUnpackTreeSpec).at F).post enc Tryd.prog Tryd.f3 false true false false) := by
  obtain ⟨places, hx⟩ := reads os enc
  refine returnsInHanded_of_row (C := Tryd.checked) (s := OpenSpec.ofChange Rows.fnExactUnpackTreeSpec) own started (by kernel_rfl) Tryd.func3
    (witness_row_at (enc := enc) (C := Tryd.checked) false (laidWorld os) #[.slice none 0 0] rfl (by kernel_rfl) (by kernel_rfl) (by kernel_rfl)
      (OpenSpec.preRow_of_cond 8 hx (by kernel_rfl) (fun k hk => by cases hk) (by kernel_rfl) (laid_met os))) ?_
  intro W base args ds gs before hval hW _ _ _ hL hS _
  exact contract H enc W base args ds gs before hval hW hS
theorem said : Rows.FnExactUnpackTreeSaid :=
  OpenClaim.holds_of_cond 3 Tryd.f3 rfl rfl rfl rfl rfl rfl rfl ⟨rfl, rfl, rfl, rfl, rfl⟩ rfl rfl rfl rfl rfl (by kernel_rfl) Tryd.func3 (by kernel_rfl)
    (of_decide_eq_true (by kernel_rfl)) (by unfold Func.isWrapper; first | (rw [if_pos (by decide +kernel)]; kernel_rfl) | (rw [if_neg (by decide +kernel)]; exact ⟨rfl, rfl⟩))
    (fun os started H enc _ F => by rw [OpenClaim.pre_eq_preRow]; exact lifted os started H enc F)
theorem plain (f : FuncId) (fn : Func) (hf : Tryd.pinned.checked.prog.funcNamed "loop.example/g00023/laws.FnExactUnpackTree" = some f) (hfn : Tryd.pinned.checked.prog.funcs[f]? = some fn) :
    false = Tryd.pinned.checked.prog.looks [] ∧ ∀ (j : Nat) t, fn.params[j]? = some t → Tryd.pinned.checked.prog.wantsStandIn t = false := by
  obtain rfl : f = 3 := Option.some.inj ((show Tryd.prog.funcNamed "loop.example/g00023/laws.FnExactUnpackTree" = some 3 by kernel_rfl).symm.trans hf) |>.symm
  obtain rfl : fn = Tryd.f3 := (Option.some.inj (Tryd.func3.symm.trans hfn)).symm
  refine ⟨by kernel_rfl, fun j t ht => ?_⟩
  rw [Tryd.params3] at ht
  have hm := Array.mem_of_getElem? ht
  simp only [List.mem_toArray, List.mem_cons, List.not_mem_nil, or_false] at hm
  rcases hm with rfl
  · exact (show Tryd.prog.wantsStandIn 22 = false by kernel_rfl)
theorem card : Rows.FnExactUnpackTreeCardSaid :=
  Claim7.holds_tied_plain_at .later [] _ _ _ _ said (fun _ h => by cases h) (by kernel_rfl) (fun _ h => by cases h) fnExactUnpackTree_row_tie rfl ⟨rfl, rfl⟩ (by kernel_rfl) rfl plain (by kernel_rfl)
#print axioms card
end Go.Proofs.YthaaboajbnkabaaDoor.fnExactUnpackTree
namespace Go.Proofs.YthaaboajbnkabaaDoor
/-- The card, under a short name, for the claim. -/
theorem fnExactUnpackTree_card : Rows.FnExactUnpackTreeCardSaid := fnExactUnpackTree.card
end Go.Proofs.YthaaboajbnkabaaDoor
end
