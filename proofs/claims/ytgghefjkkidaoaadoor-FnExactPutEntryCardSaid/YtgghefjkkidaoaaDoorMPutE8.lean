/- FnExactPutEntry: the law's row and its card: its walk, the law over lists, and what the arguments read as, joined. Whatever the arguments: the call returns true, and the arguments read as before. Condition: the listed tables hold what the program's text lays (the card ties that). -/
import Derived.Test.YtgghefjkkidaoaaDoorMPutE2
import Derived.Test.YtgghefjkkidaoaaDoorMPutE3
import Derived.Test.YtgghefjkkidaoaaDoorMPutE4
import Derived.Test.YtgghefjkkidaoaaDoorMPutE5
import Derived.Test.YtgghefjkkidaoaaDoorMPutE6
import Derived.Test.YtgghefjkkidaoaaDoorMPutE7
import Derived.Test.YtgghefjkkidaoaaDoorCards
import Derived.Test.YtgghefjkkidaoaaDoorTie
import Derived.WalkKit
import Derived.ProofKit
import Derived.OpenShut
import Derived.ShutString
import Derived.ChangeOld
import Derived.Below
import Derived.Carry
import Derived.Deep.DeepHandedRow
import Derived.Shelf.Vars
import Derived.LaidLaws

section
set_option linter.unusedVariables false
set_option linter.unusedSimpArgs false
namespace Go.Proofs.YtgghefjkkidaoaaDoor.P
open Go.RowKit Go.Proofs.YtgghefjkkidaoaaDoorW.PrintWords
theorem wrap64_id {n : Int} (h1 : -9223372036854775808 ≤ n) (h2 : n ≤ 9223372036854775807) : wrap64 n = n := by
  unfold wrap64; omega
theorem wrap32_id {n : Int} (h1 : -2147483648 ≤ n) (h2 : n ≤ 2147483647) : wrap32 n = n := by
  unfold wrap32; omega
def bs (s : ByteArray) : List UInt8 := s.data.toList
theorem bs_length (s : ByteArray) : (bs s).length = s.size := data_length s
theorem toList_bs (s : ByteArray) : s.toList = bs s := Lib.toList_data s
theorem bs_inj {a b : ByteArray} (h : bs a = bs b) : a = b := by
  cases a; cases b
  simp only [bs] at h
  congr 1
  exact Array.ext' h
theorem bt_nat (s : ByteArray) (i : Nat) (h : i < s.size) : bt s (i : Int) = (((bs s)[i]'(by rw [bs_length]; exact h)).toNat : Int) := by
  unfold bt
  rw [dif_pos (by simpa using h)]
  simp [bs, ByteArray.getElem_eq_getElem_data]
theorem bs_nil {s : ByteArray} : bs s = [] ↔ s.size = 0 := by
  rw [← bs_length]
  exact List.length_eq_zero_iff.symm
theorem bs_extract (s : ByteArray) (a b : Nat) : bs (s.extract a b) = ((bs s).drop a).take (b - a) := Lib.extract_data s a b
theorem bs_upto (s : ByteArray) (b : Nat) : bs (s.extract 0 b) = (bs s).take b := by rw [bs_extract]; simp
end Go.Proofs.YtgghefjkkidaoaaDoor.P
end

section
set_option linter.unusedVariables false
set_option linter.unusedSimpArgs false
namespace Go.Proofs.YtgghefjkkidaoaaDoor.P
open Go.RowKit Go.Proofs.YtgghefjkkidaoaaDoorW.PrintWords
def isL (c : Int) : Bool := decide ((97 ≤ c ∧ c ≤ 122) ∨ (65 ≤ c ∧ c ≤ 90))
def isD (c : Int) : Bool := decide (48 ≤ c ∧ c ≤ 57)
def okC (c : Int) : Bool := isL c || (isD c || decide (c = 45 ∨ c = 95 ∨ c = 46 ∨ c = 43))
theorem impl_letter_eq (c : Int) : impl_letter.f c = some (isL c) := by
  unfold impl_letter.f isL
  repeat' split
  all_goals (congr 1; first | (rw [decide_eq_decide]; omega) | (symm; rw [decide_eq_true_iff]; omega) | (symm; rw [decide_eq_false_iff_not]; omega))
theorem impl_digit_eq (c : Int) : impl_digit.f c = some (isD c) := by
  unfold impl_digit.f isD
  repeat' split
  all_goals (congr 1; first | (rw [decide_eq_decide]; omega) | (symm; rw [decide_eq_true_iff]; omega) | (symm; rw [decide_eq_false_iff_not]; omega))
theorem spec_l1Letter_eq (c : Int) : spec_l1Letter.f c = some (isL c) := by
  unfold spec_l1Letter.f isL
  repeat' split
  all_goals (congr 1; first | (rw [decide_eq_decide]; omega) | (symm; rw [decide_eq_true_iff]; omega) | (symm; rw [decide_eq_false_iff_not]; omega))
theorem spec_l1Digit_eq (c : Int) : spec_l1Digit.f c = some (isD c) := by
  unfold spec_l1Digit.f isD
  repeat' split
  all_goals (congr 1; first | (rw [decide_eq_decide]; omega) | (symm; rw [decide_eq_true_iff]; omega) | (symm; rw [decide_eq_false_iff_not]; omega))
def okFrom (s : ByteArray) : Nat → Nat → Bool
  | 0, _ => true
  | n + 1, i => okC (bt s i) && okFrom s n (i + 1)
def nameOk (s : ByteArray) : Bool := decide (1 ≤ s.size) && decide (s.size ≤ 60) && (bt s 0 != 46) && okFrom s s.size 0
theorem impl_NameOk_l0 (s : ByteArray) (hs : s.size ≤ 60) : ∀ n k i : Nat, n + 1 ≤ k → i + n = s.size → impl_NameOk.l0 k s (s.size : Int) (i : Int) = some (okFrom s n i) := by
  intro n
  induction n with
  | zero =>
    intro k i hk hi
    obtain ⟨k, rfl⟩ : ∃ k', k = k' + 1 := ⟨k - 1, by omega⟩
    rw [impl_NameOk.l0, if_neg (by omega), okFrom]
  | succ n ih =>
    intro k i hk hi
    obtain ⟨k, rfl⟩ : ∃ k', k = k' + 1 := ⟨k - 1, by omega⟩
    have hw : wrap64 ((i : Int) + 1) = ((i + 1 : Nat) : Int) := by rw [wrap64_id (by omega) (by omega)]; omega
    have hr := bt_range s (i : Int)
    have ihn := ih k (i + 1) (by omega) (by omega)
    rw [impl_NameOk.l0, if_pos (by omega), if_pos (by omega), if_pos (by omega), hw, okFrom, wrap32_id (by omega) (by omega)]
    have he : (⟨#[45, 95, 46, 43]⟩ : ByteArray).data.toList = [45, 95, 46, 43] := rfl
    have hcr : strings_ContainsRune.f (⟨#[45, 95, 46, 43]⟩ : ByteArray) (bt s (i : Int)) = some (decide (bt s (i : Int) = 45 ∨ bt s (i : Int) = 95 ∨ bt s (i : Int) = 46 ∨ bt s (i : Int) = 43)) := by
      unfold strings_ContainsRune.f
      rw [if_pos he, if_pos (by omega), if_pos (by omega)]
    rw [impl_letter_eq, impl_digit_eq, hcr, ihn, okC]
    simp only [Option.bind_some]
    cases isL (bt s (i : Int)) <;> cases isD (bt s (i : Int)) <;> cases decide (bt s (i : Int) = 45 ∨ bt s (i : Int) = 95 ∨ bt s (i : Int) = 46 ∨ bt s (i : Int) = 43) <;> simp
theorem impl_NameOk_eq (s : ByteArray) (k : Nat) (hk : 63 ≤ k) : impl_NameOk.f k s = some (nameOk s) := by
  obtain ⟨k, rfl⟩ : ∃ k', k = k' + 1 := ⟨k - 1, by omega⟩
  unfold impl_NameOk.f nameOk
  by_cases h1 : s.size < 1
  · rw [if_pos (by omega), impl_NameOk.j0]
    simp; omega
  · rw [if_neg (by omega)]
    by_cases h2 : s.size > 60
    · rw [if_pos (by omega), impl_NameOk.j0]
      simp; omega
    · rw [if_neg (by omega), if_pos (by omega), impl_NameOk.j0]
      have := impl_NameOk_l0 s (by omega) s.size k 0 (by omega) (by omega)
      rw [show ((0 : Nat) : Int) = 0 from rfl] at this
      rw [this]
      by_cases h3 : bt s 0 = 46
      · simp [h3]
      · have h4 : (bt s 0 == 46) = false := by simpa using h3
        simp [h3, h4, show 1 ≤ s.size by omega, show s.size ≤ 60 by omega]
theorem spec_NameOk_l0 (s : ByteArray) (hs : s.size ≤ 60) : ∀ n k i : Nat, n + 1 ≤ k → i + n = s.size → spec_NameOk.l0 k s (i : Int) = some (okFrom s n i) := by
  intro n
  induction n with
  | zero =>
    intro k i hk hi
    obtain ⟨k, rfl⟩ : ∃ k', k = k' + 1 := ⟨k - 1, by omega⟩
    rw [spec_NameOk.l0, if_neg (by omega), okFrom]
  | succ n ih =>
    intro k i hk hi
    obtain ⟨k, rfl⟩ : ∃ k', k = k' + 1 := ⟨k - 1, by omega⟩
    have hw : wrap64 ((i : Int) + 1) = ((i + 1 : Nat) : Int) := by rw [wrap64_id (by omega) (by omega)]; omega
    have hr := bt_range s (i : Int)
    have ihn := ih k (i + 1) (by omega) (by omega)
    rw [spec_NameOk.l0, if_pos (by omega), if_pos (by omega), hw, okFrom]
    rw [spec_l1Letter_eq, spec_l1Digit_eq, ihn, okC]
    simp only [Option.bind_some]
    generalize bt s (i : Int) = c
    cases isL c <;> cases isD c <;> by_cases h7 : c = 45 <;> by_cases h8 : c = 95 <;> by_cases h9 : c = 46 <;> by_cases h10 : c = 43 <;> simp [h7, h8, h9, h10]
theorem spec_NameOk_eq (s : ByteArray) (k : Nat) (hk : 63 ≤ k) : spec_NameOk.f k s = some (nameOk s) := by
  obtain ⟨k, rfl⟩ : ∃ k', k = k' + 1 := ⟨k - 1, by omega⟩
  unfold spec_NameOk.f nameOk
  by_cases h1 : s.size < 1
  · rw [if_pos (by omega), spec_NameOk.j0]
    simp; omega
  · rw [if_neg (by omega)]
    by_cases h2 : s.size > 60
    · rw [if_pos (by omega), spec_NameOk.j0]
      simp; omega
    · rw [if_neg (by omega), if_pos (by omega), spec_NameOk.j0]
      have := spec_NameOk_l0 s (by omega) s.size k 0 (by omega) (by omega)
      rw [show ((0 : Nat) : Int) = 0 from rfl] at this
      rw [this]
      by_cases h3 : bt s 0 = 46
      · simp [h3]
      · have h4 : (bt s 0 == 46) = false := by simpa using h3
        simp [h3, h4, show 1 ≤ s.size by omega, show s.size ≤ 60 by omega]
end Go.Proofs.YtgghefjkkidaoaaDoor.P
end

section
set_option linter.unusedVariables false
set_option linter.unusedSimpArgs false
namespace Go.Proofs.YtgghefjkkidaoaaDoor.P
open Go.RowKit Go.Proofs.YtgghefjkkidaoaaDoorW.PrintWords
def pcs : List UInt8 → List UInt8 → List (List UInt8)
  | cur, [] => [cur]
  | cur, c :: r => if c = 47 then cur :: pcs [] r else pcs (cur ++ [c]) r
theorem index_cons (b : UInt8) (l : List UInt8) : Lib.index (b :: l) [47] = if b = 47 then 0 else if Lib.index l [47] = -1 then -1 else Lib.index l [47] + 1 := by
  rw [Lib.index]
  by_cases hb : b = 47
  · subst hb; simp [List.isPrefixOf]
  · have : ((47 : UInt8) == b) = false := by simpa using fun e => hb e.symm
    simp [List.isPrefixOf, this, hb]
theorem pcs_miss : ∀ (l cur : List UInt8), Lib.index l [47] = -1 → pcs cur l = [cur ++ l]
  | [], cur, _ => by simp [pcs]
  | b :: l, cur, h => by
    rw [index_cons] at h
    by_cases hb : b = 47
    · rw [if_pos hb] at h; omega
    · rw [if_neg hb] at h
      by_cases hi : Lib.index l [47] = -1
      · rw [pcs, if_neg hb, pcs_miss l _ hi]; simp
      · rw [if_neg hi] at h
        have := Lib.index_ge l [47]
        omega
theorem pcs_hit : ∀ (l cur : List UInt8) (i : Nat), Lib.index l [47] = i → pcs cur l = (cur ++ l.take i) :: pcs [] (l.drop (i + 1))
  | [], cur, i, h => by simp [Lib.index] at h
  | b :: l, cur, i, h => by
    rw [index_cons] at h
    by_cases hb : b = 47
    · rw [if_pos hb] at h
      obtain rfl : i = 0 := by omega
      rw [pcs, if_pos hb]
      simp
    · rw [if_neg hb] at h
      by_cases hi : Lib.index l [47] = -1
      · rw [if_pos hi] at h; omega
      · rw [if_neg hi] at h
        have := Lib.index_ge l [47]
        obtain ⟨j, rfl⟩ : ∃ j, i = j + 1 := ⟨i - 1, by omega⟩
        rw [pcs, if_neg hb, pcs_hit l _ j (by omega)]
        simp
theorem splitK_pcs : ∀ (k : Nat) (l : List UInt8), Lib.count l [47] = k → Lib.splitK [47] 0 k l = pcs [] l
  | 0, l, h => by
    have hi : Lib.index l [47] = -1 := by
      rcases Lib.index_spec l [47] with ⟨h1, _⟩ | ⟨i, h1, _⟩
      · exact h1
      · rw [Lib.count_hit (by simp) h1] at h; omega
    rw [pcs_miss l [] hi, Lib.splitK]; rfl
  | k + 1, l, h => by
    rcases Lib.index_spec l [47] with ⟨h1, _⟩ | ⟨i, h1, _⟩
    · rw [Lib.count_miss h1] at h; omega
    · have h2 := Lib.count_hit (s := l) (sub := [47]) (by simp) h1
      rw [Lib.splitK, if_neg (by simp [h1]), pcs_hit l [] i h1, h1]
      simp only [Int.toNat_natCast, Nat.add_zero, List.nil_append]
      rw [splitK_pcs k _ (by simp at h2 ⊢; omega)]
      rfl
def nameOkL (l : List UInt8) : Bool := nameOk ⟨l.toArray⟩
theorem nameOkL_bs (s : ByteArray) : nameOkL (bs s) = nameOk s := by
  unfold nameOkL bs
  simp
def pathOk (s : ByteArray) : Bool := decide ((pcs [] (bs s)).length ≤ 8) && (pcs [] (bs s)).all nameOkL
theorem impl_pathOk_l0 (xs : List ByteArray) (hx : xs.length ≤ 8) : ∀ n k i : Nat, n + 64 ≤ k → i + n = xs.length → impl_pathOk.l0 k xs (xs.length : Int) (i : Int) = some ((xs.drop i).all nameOk) := by
  intro n
  induction n with
  | zero =>
    intro k i hk hi
    obtain ⟨k, rfl⟩ : ∃ k', k = k' + 1 := ⟨k - 1, by omega⟩
    rw [impl_pathOk.l0, if_neg (by omega), List.drop_eq_nil_of_le (by omega)]; rfl
  | succ n ih =>
    intro k i hk hi
    obtain ⟨k, rfl⟩ : ∃ k', k = k' + 1 := ⟨k - 1, by omega⟩
    have hw : wrap64 ((i : Int) + 1) = ((i + 1 : Nat) : Int) := by rw [wrap64_id (by omega) (by omega)]; omega
    have hl : i < xs.length := by omega
    rw [impl_pathOk.l0, if_pos (by omega), if_pos (by omega), if_pos (by omega), hw, impl_NameOk_eq _ _ (by omega), ih k (i + 1) (by omega) (by omega), List.drop_eq_getElem_cons hl]
    have hr : rdOf ByteArray.empty xs (i : Int) = xs[i] := by simp [rdOf, List.getD_eq_getElem?_getD, List.getElem?_eq_getElem hl]
    rw [hr, Option.bind_some, List.all_cons]
    cases nameOk xs[i] <;> simp
theorem impl_pathOk_eq (s : ByteArray) (hs : s.size < 1073741824) (k : Nat) (hk : 80 ≤ k) : impl_pathOk.f k s = some (pathOk s) := by
  unfold impl_pathOk.f strings_Split.f
  have h1 : (⟨#[47]⟩ : ByteArray).size = 1 := rfl
  rw [if_pos (by omega), if_pos (by rw [h1]; omega), Option.bind_some]
  have hm := Lib.splitB_data (⟨#[47]⟩ : ByteArray) 0 (Lib.countB s (⟨#[47]⟩ : ByteArray)) s
  have hk2 : Lib.splitK [47] 0 (Lib.countB s (⟨#[47]⟩ : ByteArray)) s.data.toList = pcs [] (bs s) := splitK_pcs _ _ rfl
  change List.map bs _ = Lib.splitK [47] 0 _ _ at hm
  rw [hk2] at hm
  generalize Lib.splitB (⟨#[47]⟩ : ByteArray) 0 (Lib.countB s (⟨#[47]⟩ : ByteArray)) s = xs at hm ⊢
  unfold pathOk
  rw [← hm]
  have ha : (xs.map bs).all nameOkL = xs.all nameOk := by
    simp only [List.all_map, Function.comp_def, nameOkL_bs]
  rw [ha, List.length_map]
  by_cases h8 : xs.length ≤ 8
  · rw [if_neg (by omega)]
    have := impl_pathOk_l0 xs h8 xs.length k 0 (by omega) (by omega)
    rw [show ((0 : Nat) : Int) = 0 from rfl] at this
    rw [this]
    simp [h8]
  · rw [if_pos (by omega)]
    simp [h8]
theorem spec_l10Names_l0 (s : ByteArray) (hs : s.size < 1073741824) : ∀ (n k fr i : Nat) (out : List ByteArray), 2 * n + 70 ≤ k → i + n = s.size → fr ≤ i → out.length ≤ 8 →
    ∃ o, spec_l10Names.l0 k s out (fr : Int) (i : Int) = some (o, decide (out.length + (pcs (bs (s.extract fr i)) ((bs s).drop i)).length ≤ 8) && (pcs (bs (s.extract fr i)) ((bs s).drop i)).all nameOkL) := by
  intro n
  induction n with
  | zero =>
    intro k fr i out hk hi hf ho
    obtain ⟨k, rfl⟩ : ∃ k', k = k' + 3 := ⟨k - 3, by omega⟩
    have hw : wrap64 ((i : Int) + 1) = ((i + 1 : Nat) : Int) := by rw [wrap64_id (by omega) (by omega)]; omega
    have hd : (bs s).drop i = [] := List.drop_eq_nil_of_le (by rw [bs_length]; omega)
    rw [spec_l10Names.l0, if_pos (by omega), if_pos (by omega), spec_l10Names.j1, if_pos rfl, if_pos (by omega), if_pos (by omega), if_pos (by omega), spec_NameOk_eq _ _ (by omega), hd, pcs, Option.bind_some, hw]
    simp only [Int.toNat_natCast]
    rw [List.all_cons, nameOkL_bs]
    cases hn : nameOk (s.extract fr i) with
    | false => exact ⟨out, by simp⟩
    | true =>
      rw [if_pos rfl]
      by_cases h8 : out.length = 8
      · rw [if_pos (by omega)]
        exact ⟨out, by simp; omega⟩
      · rw [if_neg (by omega), if_pos (by omega)]
        rw [spec_l10Names.l0, if_neg (by omega)]
        exact ⟨out ++ [s.extract fr i], by simp; omega⟩
  | succ n ih =>
    intro k fr i out hk hi hf ho
    obtain ⟨k, rfl⟩ : ∃ k', k = k' + 2 := ⟨k - 2, by omega⟩
    have hw : wrap64 ((i : Int) + 1) = ((i + 1 : Nat) : Int) := by rw [wrap64_id (by omega) (by omega)]; omega
    have hl : i < (bs s).length := by rw [bs_length]; omega
    have hd : (bs s).drop i = (bs s)[i] :: (bs s).drop (i + 1) := List.drop_eq_getElem_cons hl
    have hb := bt_nat s i (by omega)
    rw [spec_l10Names.l0, if_pos (by omega), if_neg (by omega), if_pos (by omega), if_pos (by omega), spec_l10Names.j1, hd, pcs, hw, hb]
    by_cases hc : (bs s)[i] = 47
    · have hc2 : ((((bs s)[i].toNat : Int) == 47)) = true := by rw [hc]; rfl
      rw [hc2, if_pos rfl, if_pos hc, if_pos (by omega), if_pos (by omega), if_pos (by omega), spec_NameOk_eq _ _ (by omega), Option.bind_some]
      simp only [Int.toNat_natCast]
      rw [List.all_cons, nameOkL_bs]
      cases hn : nameOk (s.extract fr i) with
      | false => exact ⟨out, by simp⟩
      | true =>
        rw [if_pos rfl]
        have hp : 1 ≤ (pcs [] ((bs s).drop (i + 1))).length := by
          generalize (bs s).drop (i + 1) = l
          generalize ([] : List UInt8) = c
          induction l generalizing c with
          | nil => simp [pcs]
          | cons b l ih => rw [pcs]; split <;> simp_all
        by_cases h8 : out.length = 8
        · rw [if_pos (by omega)]
          exact ⟨out, by simp; omega⟩
        · rw [if_neg (by omega), if_pos (by omega)]
          obtain ⟨o, h⟩ := ih k (i + 1) (i + 1) (out ++ [s.extract fr i]) (by omega) (by omega) (by omega) (by simp; omega)
          have he : bs (s.extract (i + 1) (i + 1)) = [] := by rw [bs_extract]; simp
          rw [he] at h
          refine ⟨o, ?_⟩
          rw [h]
          simp only [List.length_append, List.length_cons, List.length_nil, Bool.true_and]
          congr 3
          apply decide_eq_decide.2
          omega
    · have hc2 : ((((bs s)[i].toNat : Int) == 47)) = false := by
        rw [beq_eq_false_iff_ne]
        intro h
        exact hc (UInt8.toNat_inj.mp (by show _ = 47; omega))
      rw [hc2, if_neg (by decide), if_neg hc]
      obtain ⟨o, h⟩ := ih k fr (i + 1) out (by omega) (by omega) (by omega) ho
      have he : bs (s.extract fr (i + 1)) = bs (s.extract fr i) ++ [(bs s)[i]] := by
        rw [bs_extract, bs_extract, show i + 1 - fr = (i - fr) + 1 by omega, List.take_add_one]
        congr 1
        rw [List.getElem?_drop, show fr + (i - fr) = i by omega, List.getElem?_eq_getElem hl]
        rfl
      rw [he] at h
      exact ⟨o, h⟩
theorem spec_l10Names_eq (s : ByteArray) (hs : s.size < 1073741824) (k : Nat) (hk : 2 * s.size + 70 ≤ k) : ∃ o, spec_l10Names.f k s = some (o, pathOk s) := by
  obtain ⟨o, h⟩ := spec_l10Names_l0 s hs s.size k 0 0 [] hk (by omega) (by omega) (by simp)
  have he : bs (s.extract 0 0) = [] := by rw [bs_extract]; simp
  rw [he] at h
  refine ⟨o, ?_⟩
  unfold spec_l10Names.f pathOk
  simpa using h
def upOf (s : ByteArray) : ByteArray × Bool := if Lib.lastIndexByte s 47 < 0 then (⟨#[]⟩, false) else (s.extract 0 (Lib.lastIndexByte s 47).toNat, true)
theorem impl_upper_eq (s : ByteArray) (hs : s.size < 1073741824) : impl_upper.f s = some (upOf s) := by
  unfold impl_upper.f strings_LastIndexByte.f upOf
  rw [if_pos (by omega), Option.bind_some]
  rcases Lib.lastIndexByte_spec s 47 with ⟨h, _⟩ | ⟨i, hi, h, _⟩
  · rw [h, if_pos (by omega), if_pos (by omega)]
  · rw [h, if_neg (by omega), if_pos (by omega), if_pos (by omega), if_neg (by omega)]
theorem spec_l10Up_l0 (s : ByteArray) (hs : s.size < 1073741824) : ∀ (n k : Nat), n + 1 ≤ k → n ≤ s.size →
    spec_l10Up.l0 k s ((n : Int) - 1) = some (if Lib.lastIdx s 47 n < 0 then ⟨#[]⟩ else s.extract 0 (Lib.lastIdx s 47 n).toNat) := by
  intro n
  induction n with
  | zero =>
    intro k hk hn
    obtain ⟨k, rfl⟩ : ∃ k', k = k' + 1 := ⟨k - 1, by omega⟩
    rw [spec_l10Up.l0, if_neg (by omega), Lib.lastIdx, if_pos (by omega)]
  | succ n ih =>
    intro k hk hn
    obtain ⟨k, rfl⟩ : ∃ k', k = k' + 1 := ⟨k - 1, by omega⟩
    have e1 : ((n + 1 : Nat) : Int) - 1 = (n : Int) := by omega
    have hw : wrap64 ((n : Int) - 1) = (n : Int) - 1 := wrap64_id (by omega) (by omega)
    have hb : bt s (n : Int) = ((s.data[n]!).toNat : Int) := by
      rw [bt_nat s n (by omega)]
      have h2 : n < s.data.size := by show n < s.size; omega
      rw [getElem!_pos s.data n h2]
      simp [bs]
    rw [e1, spec_l10Up.l0, if_pos (by omega), if_pos (by omega), if_pos (by omega), hw, hb]
    by_cases hc : ((s.data[n]!).toNat : Int) = 47
    · rw [Lib.lastIdx_hit s 47 n hc, if_pos hc, if_pos (by omega), if_neg (by omega)]
    · rw [Lib.lastIdx_miss s 47 n hc, if_neg hc, ih k (by omega) (by omega)]
theorem spec_l10Up_eq (s : ByteArray) (hs : s.size < 1073741824) (k : Nat) (hk : s.size + 1 ≤ k) : spec_l10Up.f k s = some (upOf s).1 := by
  unfold spec_l10Up.f upOf
  rw [wrap64_id (by omega) (by omega), spec_l10Up_l0 s hs s.size k hk (Nat.le_refl _)]
  show some (if Lib.lastIndexByte s 47 < 0 then _ else _) = _
  split <;> rfl
theorem upOf_ok (s : ByteArray) (hp : pathOk s = true) (hu : (upOf s).2 = true) : ∃ i : Nat, 0 < i ∧ i < s.size ∧ (upOf s).1 = s.extract 0 i := by
  unfold upOf at hu ⊢
  rcases Lib.lastIndexByte_spec s 47 with ⟨h, _⟩ | ⟨i, hi, h, hc, _⟩
  · rw [h, if_pos (by omega)] at hu
    cases hu
  · rw [h, if_neg (by omega)]
    refine ⟨i, ?_, hi, by simp⟩
    rcases Nat.eq_zero_or_pos i with h0 | h0
    · subst h0
      exfalso
      have hl : 0 < (bs s).length := by rw [bs_length]; omega
      have hd : bs s = (bs s)[0] :: (bs s).drop 1 := by
        have := List.drop_eq_getElem_cons hl
        simpa using this
      have h47 : (bs s)[0] = 47 := by
        have h2 : 0 < s.data.size := hi
        have h3 : s.data[0]! = (bs s)[0] := by rw [getElem!_pos s.data 0 h2]; simp [bs]
        rw [h3] at hc
        exact UInt8.toNat_inj.mp (by show _ = 47; omega)
      unfold pathOk at hp
      rw [hd, h47, pcs, if_pos rfl] at hp
      simp [nameOkL, nameOk] at hp
      exact absurd hp.2.1.1.1.1 (by decide)
    · exact h0
theorem upOf_no (s : ByteArray) (hu : (upOf s).2 = false) : (upOf s).1 = ⟨#[]⟩ := by
  unfold upOf at hu ⊢
  split
  · rfl
  · rename_i h
    rw [if_neg h] at hu
    cases hu
theorem less_begin : ∀ (l : List UInt8) (i : Nat), i < l.length → Op.bytesLess (l.take i) l = true
  | [], i, h => by simp at h
  | b :: l, 0, _ => by simp [Op.bytesLess]
  | b :: l, i + 1, h => by
    rw [List.take_succ_cons, Op.bytesLess, less_begin l i (by simpa using h)]
    simp
end Go.Proofs.YtgghefjkkidaoaaDoor.P
end

section
set_option linter.unusedVariables false
set_option linter.unusedSimpArgs false
namespace Go.Proofs.YtgghefjkkidaoaaDoor.P
open Go.RowKit Go.Proofs.YtgghefjkkidaoaaDoorW.PrintWords Go.Proofs.YtgghefjkkidaoaaDoorM
def less (a b : ByteArray) : Bool := Op.bytesLess (bs a) (bs b)
theorem bl_less (a b : ByteArray) : Op.bytesLess a.toList b.toList = less a b := by rw [toList_bs, toList_bs]; rfl
theorem bl_irrefl : ∀ x : List UInt8, Op.bytesLess x x = false
  | [] => by simp [Op.bytesLess]
  | a :: x => by
    rw [Op.bytesLess, bl_irrefl x]
    have : ¬ a < a := fun h => by have := UInt8.lt_iff_toNat_lt.mp h; omega
    simp [this]
theorem bl_trans : ∀ x y z : List UInt8, Op.bytesLess x y = true → Op.bytesLess y z = true → Op.bytesLess x z = true
  | _, [], _, h, _ => by simp [Op.bytesLess] at h
  | _, _ :: _, [], _, h => by simp [Op.bytesLess] at h
  | [], _ :: _, _ :: _, _, _ => by simp [Op.bytesLess]
  | a :: x, b :: y, c :: z, h1, h2 => by
    rw [Op.bytesLess, Bool.or_eq_true, Bool.and_eq_true, decide_eq_true_iff, beq_iff_eq] at h1 h2 ⊢
    rcases h1 with h1 | ⟨rfl, h1⟩
    · rcases h2 with h2 | ⟨rfl, h2⟩
      · exact .inl (UInt8.lt_iff_toNat_lt.mpr (by have := UInt8.lt_iff_toNat_lt.mp h1; have := UInt8.lt_iff_toNat_lt.mp h2; omega))
      · exact .inl h1
    · rcases h2 with h2 | ⟨rfl, h2⟩
      · exact .inl h2
      · exact .inr ⟨rfl, bl_trans x y z h1 h2⟩
theorem less_irrefl (a : ByteArray) : less a a = false := bl_irrefl _
theorem less_trans {a b c : ByteArray} (h1 : less a b = true) (h2 : less b c = true) : less a c = true := bl_trans _ _ _ h1 h2
theorem less_tri {a b : ByteArray} (h1 : less a b = false) (h2 : less b a = false) : a = b := by
  have := bytesLess_turn (bs a) (bs b)
  unfold less at h1 h2
  rw [h1, h2] at this
  simp at this
  exact bs_inj this
theorem less_ne {a b : ByteArray} (h : less a b = true) : a ≠ b := fun e => by subst e; rw [less_irrefl] at h; cases h
theorem less_asymm {a b : ByteArray} (h : less a b = true) : less b a = false := by
  cases h2 : less b a with
  | false => rfl
  | true => rw [← less_irrefl a]; exact (less_trans h h2).symm
def gd (t : List S47) (i : Nat) : S47 := t.getD i z47
theorem rd_gd (t : List S47) (i : Nat) : rd_T47 t (i : Int) = gd t i := by simp [rd_T47, gd]
theorem gd_get (t : List S47) (i : Nat) (h : i < t.length) : gd t i = t[i] := by simp [gd, List.getD_eq_getElem?_getD, List.getElem?_eq_getElem h]
theorem gd_mem (t : List S47) (i : Nat) (h : i < t.length) : gd t i ∈ t := by rw [gd_get t i h]; exact List.getElem_mem h
theorem mem_gd {t : List S47} {e : S47} (h : e ∈ t) : ∃ i, i < t.length ∧ gd t i = e := by
  obtain ⟨i, hi, he⟩ := List.getElem_of_mem h
  exact ⟨i, hi, by rw [gd_get t i hi, he]⟩
def entryOk (e : S47) : Bool := pathOk e.f0 && (decide (e.f2.size ≤ 20000) && (if e.f1 = 1 then decide (e.f2.size = 0) && !e.f3 else if e.f1 = 2 then true else if e.f1 = 3 then !decide (e.f2.size = 0) && !e.f3 else false))
def risen (t : List S47) (n : Nat) : Prop := ∀ j, 0 < j → j < n → less (gd t (j - 1)).f0 (gd t j).f0 = true
theorem risen_lt {t : List S47} {n : Nat} (h : risen t n) : ∀ d i, i + d + 1 < n → less (gd t i).f0 (gd t (i + d + 1)).f0 = true
  | 0, i, hi => by have := h (i + 1) (by omega) (by omega); simpa using this
  | d + 1, i, hi => less_trans (risen_lt h d i (by omega)) (by have h2 := h (i + d + 1 + 1) (by omega) (by omega); rw [Nat.add_sub_cancel] at h2; exact h2)
theorem risen_less {t : List S47} {n i j : Nat} (h : risen t n) (hij : i < j) (hj : j < n) : less (gd t i).f0 (gd t j).f0 = true := by
  have := risen_lt h (j - i - 1) i (by omega)
  rwa [show i + (j - i - 1) + 1 = j by omega] at this
theorem risen_inj {t : List S47} {n i j : Nat} (h : risen t n) (hi : i < n) (hj : j < n) (he : (gd t i).f0 = (gd t j).f0) : i = j := by
  rcases Nat.lt_trichotomy i j with hl | hl | hl
  · exact absurd he (less_ne (risen_less h hl hj))
  · exact hl
  · exact absurd he.symm (less_ne (risen_less h hl hi))
theorem spec_l10Find_l0 (t : List S47) (p : ByteArray) (ht : t.length < 1073741824) (hr : risen t t.length) : ∀ (n k lo hi : Nat), n + 2 ≤ k → hi - lo ≤ n → lo ≤ hi → hi ≤ t.length →
    (∀ i, i < lo → less (gd t i).f0 p = true) → (∀ i, hi ≤ i → i < t.length → less (gd t i).f0 p = false) →
    ∃ r, spec_l10Find.l0 k t p (lo : Int) (hi : Int) = some r ∧ ((∃ i : Nat, r = i ∧ i < t.length ∧ (gd t i).f0 = p) ∨ (r = -1 ∧ ∀ i, i < t.length → (gd t i).f0 ≠ p)) := by
  intro n
  induction n with
  | zero =>
    intro k lo hi hk hn hl hh h1 h2
    obtain ⟨k, rfl⟩ : ∃ k', k = k' + 1 := ⟨k - 1, by omega⟩
    obtain rfl : lo = hi := by omega
    rw [spec_l10Find.l0, if_neg (by omega), rd_gd]
    by_cases hlt : lo < t.length
    · rw [if_pos (by omega), if_pos (by omega)]
      by_cases he : (gd t lo).f0 = p
      · rw [if_pos (by rw [he])]
        exact ⟨_, rfl, .inl ⟨lo, rfl, hlt, he⟩⟩
      · rw [if_neg (fun h => he (bs_inj (by rw [← toList_bs, ← toList_bs]; exact h)))]
        refine ⟨_, rfl, .inr ⟨rfl, fun i hi e => ?_⟩⟩
        rcases Nat.lt_trichotomy i lo with hc | hc | hc
        · exact absurd e (less_ne (h1 i hc))
        · subst hc; exact he e
        · have h3 := risen_less hr hc hi
          rw [e] at h3
          rw [h2 lo (Nat.le_refl _) hlt] at h3
          cases h3
    · rw [if_neg (by omega)]
      exact ⟨_, rfl, .inr ⟨rfl, fun i hi e => absurd e (less_ne (h1 i (by omega)))⟩⟩
  | succ n ih =>
    intro k lo hi hk hn hl hh h1 h2
    by_cases hlo : lo = hi
    · exact ih k lo hi (by omega) (by omega) hl hh h1 h2
    obtain ⟨k, rfl⟩ : ∃ k', k = k' + 1 := ⟨k - 1, by omega⟩
    have hm : wrap64 (Int.tdiv (wrap64 ((lo : Int) + (hi : Int))) 2) = (((lo + hi) / 2 : Nat) : Int) := by
      rw [wrap64_id (n := (lo : Int) + (hi : Int)) (by omega) (by omega), Int.tdiv_eq_ediv_of_nonneg (by omega), wrap64_id (by omega) (by omega)]
      omega
    have hw : wrap64 ((((lo + hi) / 2 : Nat) : Int) + 1) = (((lo + hi) / 2 + 1 : Nat) : Int) := by rw [wrap64_id (by omega) (by omega)]; omega
    rw [spec_l10Find.l0, if_pos (by omega), hm, if_pos (by omega), if_pos (by omega), rd_gd, hw, bl_less]
    by_cases hc : less (gd t ((lo + hi) / 2)).f0 p = true
    · rw [if_pos hc]
      refine ih k _ hi (by omega) (by omega) (by omega) hh (fun i hi2 => ?_) h2
      rcases Nat.lt_or_ge i ((lo + hi) / 2) with h3 | h3
      · exact less_trans (risen_less hr h3 (by omega)) hc
      · obtain rfl : i = (lo + hi) / 2 := by omega
        exact hc
    · rw [if_neg hc]
      refine ih k lo _ (by omega) (by omega) (by omega) (by omega) h1 (fun i hi2 hi3 => ?_)
      have hc2 : less (gd t ((lo + hi) / 2)).f0 p = false := by simpa using hc
      rcases Nat.lt_or_ge ((lo + hi) / 2) i with h3 | h3
      · cases h4 : less (gd t i).f0 p with
        | false => rfl
        | true => rw [← hc2]; exact (less_trans (risen_less hr h3 hi3) h4).symm
      · obtain rfl : i = (lo + hi) / 2 := by omega
        exact hc2
theorem spec_l10Find_eq (t : List S47) (p : ByteArray) (ht : t.length < 1073741824) (hr : risen t t.length) (k : Nat) (hk : t.length + 2 ≤ k) :
    ∃ r, spec_l10Find.f k t p = some r ∧ ((∃ i : Nat, r = i ∧ i < t.length ∧ (gd t i).f0 = p) ∨ (r = -1 ∧ ∀ i, i < t.length → (gd t i).f0 ≠ p)) :=
  spec_l10Find_l0 t p ht hr t.length k 0 t.length hk (by omega) (by omega) (by omega) (fun i h => absurd h (Nat.not_lt_zero _)) (fun i h1 h2 => by omega)
def dirAt (t : List S47) (n : Nat) (p : ByteArray) : Prop := ∃ i, i < n ∧ (gd t i).f0 = p ∧ (gd t i).f1 = 1
theorem gd_take (t : List S47) (n i : Nat) (h : i < n) : gd (t.take n) i = gd t i := by
  unfold gd
  rw [List.getD_eq_getElem?_getD, List.getD_eq_getElem?_getD, List.getElem?_take_of_lt h]
theorem spec_l10Dir_eq (t : List S47) (n : Nat) (p : ByteArray) (hn : n ≤ t.length) (ht : t.length < 1073741824) (hr : risen t n) (k : Nat) (hk : t.length + 2 ≤ k) :
    ∃ b, spec_l10Dir.f k (t.take n) p = some b ∧ (b = true ↔ dirAt t n p) := by
  have hl : (t.take n).length = n := by rw [List.length_take]; omega
  have hr2 : risen (t.take n) (t.take n).length := fun j h1 h2 => by
    rw [hl] at h2
    rw [gd_take t n _ (by omega), gd_take t n _ h2]
    exact hr j h1 h2
  obtain ⟨r, hf, hc⟩ := spec_l10Find_eq (t.take n) p (by omega) hr2 k (by omega)
  unfold spec_l10Dir.f
  rw [hf, Option.bind_some]
  rcases hc with ⟨i, rfl, hi, he⟩ | ⟨rfl, hno⟩
  · rw [if_pos (by omega), if_pos (by omega), if_pos (by omega), rd_gd]
    rw [hl] at hi
    rw [gd_take t n i hi] at he ⊢
    refine ⟨_, rfl, ?_⟩
    rw [beq_iff_eq]
    constructor
    · exact fun h => ⟨i, hi, he, h⟩
    · rintro ⟨j, hj, he2, h1⟩
      obtain rfl := risen_inj hr hi hj (he.trans he2.symm)
      exact h1
  · rw [if_neg (by omega)]
    refine ⟨false, rfl, ⟨fun h => (by cases h), ?_⟩⟩
    rintro ⟨j, hj, he2, _⟩
    exact absurd (by rw [gd_take t n j hj]; exact he2) (hno j (by omega))
theorem toList_nil (s : ByteArray) : s.toList = ([] : List UInt8) ↔ s.size = 0 := by
  rw [toList_bs]
  exact bs_nil
theorem spec_l10EntryOk_eq (e : S47) (hs : e.f0.size < 1073741824) (k : Nat) (hk : 2 * e.f0.size + 71 ≤ k) : spec_l10EntryOk.f k e.f0 e.f1 e.f2 e.f3 = some (entryOk e) := by
  obtain ⟨o, h⟩ := spec_l10Names_eq e.f0 hs k (by omega)
  obtain ⟨k, rfl⟩ : ∃ k', k = k' + 1 := ⟨k - 1, by omega⟩
  unfold spec_l10EntryOk.f entryOk
  rw [h, Option.bind_some]
  show (if pathOk e.f0 = true then _ else _) = _
  cases pathOk e.f0 with
  | false => rw [if_neg (by decide), spec_l10EntryOk.j0]; rfl
  | true =>
    rw [if_pos rfl, spec_l10EntryOk.j0]
    simp only [toList_nil]
    by_cases h1 : e.f2.size > 20000
    · rw [if_pos (by simp; omega)]
      simp; omega
    · rw [if_neg (by simp; omega)]
      have h2 : e.f2.size ≤ 20000 := by omega
      by_cases h3 : e.f1 = 1
      · by_cases h4 : e.f2.size = 0 <;> simp [h2, h3, h4]
      · by_cases h5 : e.f1 = 2
        · simp [h2, h3, h5]
        · by_cases h6 : e.f1 = 3
          · by_cases h4 : e.f2.size = 0 <;> simp [h2, h3, h5, h6, h4]
          · simp [h2, h3, h5, h6]
def goodAt (t : List S47) (i : Nat) : Prop :=
  entryOk (gd t i) = true ∧ (0 < i → less (gd t (i - 1)).f0 (gd t i).f0 = true) ∧ ((upOf (gd t i).f0).2 = true → dirAt t i (upOf (gd t i).f0).1)
def treeOk (t : List S47) : Prop := t.length ≤ 500 ∧ ∀ i, i < t.length → goodAt t i
def smallT (t : List S47) : Prop := ∀ i, (gd t i).f0.size ≤ 1048576
theorem entryOk_path {e : S47} (h : entryOk e = true) : pathOk e.f0 = true := by
  unfold entryOk at h
  rw [Bool.and_eq_true] at h
  exact h.1
theorem spec_TreeOk_l0 (t : List S47) (hl : t.length ≤ 500) (hz : smallT t) : ∀ (n k i : Nat), 2 * n + 2100000 ≤ k → i + n = t.length → (∀ j, j < i → goodAt t j) →
    ∃ b, spec_TreeOk.l0 k t (i : Int) = some b ∧ (b = true ↔ ∀ j, i ≤ j → j < t.length → goodAt t j) := by
  intro n
  induction n with
  | zero =>
    intro k i hk hi hg
    obtain ⟨k, rfl⟩ : ∃ k', k = k' + 1 := ⟨k - 1, by omega⟩
    rw [spec_TreeOk.l0, if_neg (by omega)]
    exact ⟨true, rfl, ⟨fun _ j h1 h2 => by omega, fun _ => rfl⟩⟩
  | succ n ih =>
    intro k i hk hi hg
    obtain ⟨k, rfl⟩ : ∃ k', k = k' + 2 := ⟨k - 2, by omega⟩
    have hzi := hz i
    have hw : wrap64 ((i : Int) + 1) = ((i + 1 : Nat) : Int) := by rw [wrap64_id (by omega) (by omega)]; omega
    rw [spec_TreeOk.l0, if_pos (by omega), if_pos (by omega), rd_gd, spec_l10EntryOk_eq _ (by omega) _ (by omega), Option.bind_some]
    have hbad : ¬ goodAt t i → (false = true ↔ ∀ j, i ≤ j → j < t.length → goodAt t j) := fun hb => ⟨fun h => (by cases h), fun h => absurd (h i (Nat.le_refl _) (by omega)) hb⟩
    have hr : risen t i := fun j h1 h2 => (hg j h2).2.1 h1
    -- behind the order
    have hj : entryOk (gd t i) = true → ∀ o : Bool, (0 < i → o = !(less (gd t (i - 1)).f0 (gd t i).f0)) → (i = 0 → o = false) →
        ∃ b, spec_TreeOk.j1 (k + 1) t (i : Int) o = some b ∧ (b = true ↔ ∀ j, i ≤ j → j < t.length → goodAt t j) := by
      intro he o ho1 ho2
      rw [spec_TreeOk.j1]
      cases o with
      | true =>
        rw [if_pos rfl]
        refine ⟨false, rfl, hbad fun hb => ?_⟩
        rcases Nat.eq_zero_or_pos i with h0 | h0
        · cases ho2 h0
        · have h1 := ho1 h0
          rw [hb.2.1 h0] at h1
          cases h1
      | false =>
        rw [if_neg (by decide), if_pos (by omega), if_pos (by omega), rd_gd, spec_l10Up_eq _ (by omega) _ (by omega), Option.bind_some, hw]
        have hord : 0 < i → less (gd t (i - 1)).f0 (gd t i).f0 = true := fun h0 => by
          have h1 := ho1 h0
          cases h2 : less (gd t (i - 1)).f0 (gd t i).f0 with
          | true => rfl
          | false => rw [h2] at h1; cases h1
        have hgo : goodAt t i → ∃ b, spec_TreeOk.l0 k t ((i + 1 : Nat) : Int) = some b ∧ (b = true ↔ ∀ j, i ≤ j → j < t.length → goodAt t j) := fun hgi => by
          obtain ⟨b, hb1, hb2⟩ := ih k (i + 1) (by omega) (by omega) (fun j hj => by
            rcases Nat.lt_or_ge j i with h | h
            · exact hg j h
            · obtain rfl : j = i := by omega
              exact hgi)
          refine ⟨b, hb1, hb2.trans ⟨fun h j h1 h2 => ?_, fun h j h1 h2 => h j (by omega) h2⟩⟩
          rcases Nat.lt_or_ge i j with h3 | h3
          · exact h j h3 h2
          · obtain rfl : j = i := by omega
            exact hgi
        cases hu : (upOf (gd t i).f0).2 with
        | false =>
          rw [upOf_no _ hu, if_pos ((toList_nil _).2 rfl)]
          exact hgo ⟨he, hord, fun h => by rw [hu] at h; cases h⟩
        | true =>
          obtain ⟨q, hq0, hq1, hq⟩ := upOf_ok _ (entryOk_path he) hu
          have hqs : (upOf (gd t i).f0).1.size ≠ 0 := by
            rw [hq, ← bs_length, bs_upto, List.length_take, bs_length]
            omega
          obtain ⟨b, hb1, hb2⟩ := spec_l10Dir_eq t i (upOf (gd t i).f0).1 (by omega) (by omega) hr k (by omega)
          rw [if_neg (fun h => hqs ((toList_nil _).1 h)), if_pos (by omega)]
          simp only [Int.toNat_natCast]
          rw [hb1, Option.bind_some]
          cases b with
          | true =>
            rw [if_pos rfl]
            exact hgo ⟨he, hord, fun _ => hb2.1 rfl⟩
          | false =>
            rw [if_neg (by decide)]
            exact ⟨false, rfl, hbad fun hb => by cases hb2.2 (hb.2.2 hu)⟩
    cases he : entryOk (gd t i) with
    | false =>
      rw [if_neg (by decide), spec_TreeOk.j1, if_pos rfl]
      exact ⟨false, rfl, hbad fun hb => by rw [hb.1] at he; cases he⟩
    | true =>
      rw [if_pos rfl]
      by_cases h0 : 0 < i
      · have hw2 : wrap64 ((i : Int) - 1) = ((i - 1 : Nat) : Int) := by rw [wrap64_id (by omega) (by omega)]; omega
        rw [if_pos (by omega), hw2, if_pos (by omega), if_pos (by omega), rd_gd, bl_less]
        exact hj he _ (fun _ => rfl) (fun h => by omega)
      · rw [if_neg (by omega)]
        exact hj he false (fun h => absurd h h0) (fun _ => rfl)
theorem spec_TreeOk_eq (t : List S47) (hz : smallT t) (k : Nat) (hk : 2110000 ≤ k) : ∃ b, spec_TreeOk.f k t = some b ∧ (b = true ↔ treeOk t) := by
  unfold spec_TreeOk.f treeOk
  by_cases h : t.length > 500
  · rw [if_pos (by omega)]
    exact ⟨false, rfl, ⟨fun h => (by cases h), fun h2 => by omega⟩⟩
  · rw [if_neg (by omega)]
    obtain ⟨b, h1, h2⟩ := spec_TreeOk_l0 t (by omega) hz t.length k 0 (by omega) (by omega) (fun j h => absurd h (Nat.not_lt_zero _))
    exact ⟨b, h1, h2.trans ⟨fun h3 => ⟨by omega, fun i hi => h3 i (Nat.zero_le _) hi⟩, fun h3 j _ hj => h3.2 j hj⟩⟩
end Go.Proofs.YtgghefjkkidaoaaDoor.P
end

section
set_option linter.unusedVariables false
set_option linter.unusedSimpArgs false
namespace Go.Proofs.YtgghefjkkidaoaaDoor.P
open Go.RowKit Go.Proofs.YtgghefjkkidaoaaDoorW.PrintWords Go.Proofs.YtgghefjkkidaoaaDoorM
theorem mgetD_snoc (m : List (ByteArray × Int)) (a p : ByteArray) : mgetD 0 (m ++ [(a, 1)]) p = if a = p then 1 else mgetD 0 m p := by
  unfold mgetD
  by_cases h : a = p <;> simp [h]
def dm (t : List S47) : Nat → List (ByteArray × Int)
  | 0 => []
  | i + 1 => if (gd t i).f1 = 1 then dm t i ++ [((gd t i).f0, 1)] else dm t i
theorem dm_length (t : List S47) : ∀ n, (dm t n).length ≤ n
  | 0 => by simp [dm]
  | n + 1 => by
    have := dm_length t n
    rw [dm]
    split
    · simp; omega
    · omega
theorem dm_get (t : List S47) (p : ByteArray) : ∀ n, (mgetD 0 (dm t n) p = 0 ↔ ¬ dirAt t n p)
  | 0 => by
    simp only [dm, mgetD]
    refine ⟨fun _ h => ?_, fun _ => by simp⟩
    obtain ⟨i, hi, _⟩ := h
    omega
  | n + 1 => by
    have ih := dm_get t p n
    have hs : dirAt t (n + 1) p ↔ dirAt t n p ∨ ((gd t n).f0 = p ∧ (gd t n).f1 = 1) := by
      constructor
      · rintro ⟨i, hi, h⟩
        rcases Nat.lt_or_ge i n with h1 | h1
        · exact .inl ⟨i, h1, h⟩
        · obtain rfl : i = n := by omega
          exact .inr h
      · rintro (⟨i, hi, h⟩ | h)
        · exact ⟨i, by omega, h⟩
        · exact ⟨n, by omega, h⟩
    rw [dm, hs]
    by_cases h1 : (gd t n).f1 = 1
    · rw [if_pos h1, mgetD_snoc]
      by_cases h2 : (gd t n).f0 = p
      · simp [h1, h2]
      · simp [h1, h2, ih]
    · rw [if_neg h1, ih]
      simp [h1]
theorem impl_TreeOk_l1 (t : List S47) (hl : t.length ≤ 500) (hz : smallT t) : ∀ (n k i : Nat), n + 1 ≤ k → i + n = t.length →
    ∃ b, impl_TreeOk.l1 k (dm t t.length) t (t.length : Int) (i : Int) = some b ∧ (b = true ↔ ∀ j, i ≤ j → j < t.length → (upOf (gd t j).f0).2 = true → dirAt t t.length (upOf (gd t j).f0).1) := by
  intro n
  induction n with
  | zero =>
    intro k i hk hi
    obtain ⟨k, rfl⟩ : ∃ k', k = k' + 1 := ⟨k - 1, by omega⟩
    rw [impl_TreeOk.l1, if_neg (by omega)]
    exact ⟨true, rfl, ⟨fun _ j h1 h2 => by omega, fun _ => rfl⟩⟩
  | succ n ih =>
    intro k i hk hi
    obtain ⟨k, rfl⟩ : ∃ k', k = k' + 1 := ⟨k - 1, by omega⟩
    have hzi := hz i
    have hw : wrap64 ((i : Int) + 1) = ((i + 1 : Nat) : Int) := by rw [wrap64_id (by omega) (by omega)]; omega
    rw [impl_TreeOk.l1, if_pos (by omega), if_pos (by omega), if_pos (by omega), rd_gd, impl_upper_eq _ (by omega), Option.bind_some, hw]
    obtain ⟨b, hb1, hb2⟩ := ih k (i + 1) (by omega) (by omega)
    have hgo : ((upOf (gd t i).f0).2 = true → dirAt t t.length (upOf (gd t i).f0).1) → ∃ b, impl_TreeOk.l1 k (dm t t.length) t (t.length : Int) ((i + 1 : Nat) : Int) = some b ∧ (b = true ↔ ∀ j, i ≤ j → j < t.length → (upOf (gd t j).f0).2 = true → dirAt t t.length (upOf (gd t j).f0).1) := fun hg => by
      refine ⟨b, hb1, hb2.trans ⟨fun h j h1 h2 => ?_, fun h j h1 h2 => h j (by omega) h2⟩⟩
      rcases Nat.lt_or_ge i j with h3 | h3
      · exact h j h3 h2
      · obtain rfl : j = i := by omega
        exact hg
    cases hu : (upOf (gd t i).f0).2 with
    | false => rw [if_neg (by decide)]; exact hgo (fun h => by rw [hu] at h; cases h)
    | true =>
      have hus : (upOf (gd t i).f0).1.size ≤ 1048576 := by
        unfold upOf
        split
        · decide
        · show ((gd t i).f0.extract 0 _).size ≤ _
          rw [← bs_length, bs_upto, List.length_take, bs_length]
          omega
      rw [if_pos rfl, if_pos (by omega)]
      by_cases hd : mgetD 0 (dm t t.length) (upOf (gd t i).f0).1 = 0
      · rw [if_pos hd]
        exact ⟨false, rfl, ⟨fun h => (by cases h), fun h => absurd (h i (Nat.le_refl _) (by omega) hu) ((dm_get t _ _).1 hd)⟩⟩
      · rw [if_neg hd]
        refine hgo (fun _ => ?_)
        by_cases hx : dirAt t t.length (upOf (gd t i).f0).1
        · exact hx
        · exact absurd ((dm_get t _ _).2 hx) hd
def firstAt (t : List S47) (i : Nat) : Prop := entryOk (gd t i) = true ∧ (0 < i → less (gd t (i - 1)).f0 (gd t i).f0 = true)
def upsIn (t : List S47) : Prop := ∀ j, j < t.length → (upOf (gd t j).f0).2 = true → dirAt t t.length (upOf (gd t j).f0).1
theorem impl_TreeOk_l0 (t : List S47) (hl : t.length ≤ 500) (hz : smallT t) : ∀ (n k i : Nat), 2 * n + 700 ≤ k → i + n = t.length →
    ∃ b, impl_TreeOk.l0 k t (dm t i) t (t.length : Int) (i : Int) = some b ∧ (b = true ↔ (∀ j, i ≤ j → j < t.length → firstAt t j) ∧ upsIn t) := by
  intro n
  induction n with
  | zero =>
    intro k i hk hi
    obtain ⟨k, rfl⟩ : ∃ k', k = k' + 1 := ⟨k - 1, by omega⟩
    obtain rfl : i = t.length := by omega
    rw [impl_TreeOk.l0, if_neg (by omega)]
    obtain ⟨b, h1, h2⟩ := impl_TreeOk_l1 t hl hz t.length k 0 (by omega) (by omega)
    exact ⟨b, h1, h2.trans ⟨fun h => ⟨fun j h3 h4 => by omega, fun j hj => h j (Nat.zero_le _) hj⟩, fun h j _ hj => h.2 j hj⟩⟩
  | succ n ih =>
    intro k i hk hi
    obtain ⟨k, rfl⟩ : ∃ k', k = k' + 2 := ⟨k - 2, by omega⟩
    have hzi := hz i
    have hw : wrap64 ((i : Int) + 1) = ((i + 1 : Nat) : Int) := by rw [wrap64_id (by omega) (by omega)]; omega
    have hdl := dm_length t i
    rw [impl_TreeOk.l0, if_pos (by omega), if_pos (by omega), if_pos (by omega), rd_gd, impl_pathOk_eq _ (by omega) _ (by omega), Option.bind_some]
    have hbad : ¬ firstAt t i → (false = true ↔ (∀ j, i ≤ j → j < t.length → firstAt t j) ∧ upsIn t) := fun hb => ⟨fun h => (by cases h), fun h => absurd (h.1 i (Nat.le_refl _) (by omega)) hb⟩
    -- behind the tests
    have hj : ∀ o : Bool, (o = true → ¬ firstAt t i) → (o = false → pathOk (gd t i).f0 = true ∧ ((gd t i).f3 = true → (gd t i).f1 = 2) ∧ (0 < i → less (gd t (i - 1)).f0 (gd t i).f0 = true)) →
        ∃ b, impl_TreeOk.j1 (k + 1) t (dm t i) t (t.length : Int) (i : Int) o (gd t i).f0 (gd t i).f1 (gd t i).f2 (gd t i).f3 = some b ∧ (b = true ↔ (∀ j, i ≤ j → j < t.length → firstAt t j) ∧ upsIn t) := by
      intro o ho1 ho2
      rw [impl_TreeOk.j1, hw]
      cases o with
      | true => rw [if_pos rfl]; exact ⟨false, rfl, hbad (ho1 rfl)⟩
      | false =>
        obtain ⟨hp, hx, hor⟩ := ho2 rfl
        obtain ⟨b, hb1, hb2⟩ := ih k (i + 1) (by omega) (by omega)
        have hgo : entryOk (gd t i) = true → (b = true ↔ (∀ j, i ≤ j → j < t.length → firstAt t j) ∧ upsIn t) := fun he => by
          refine hb2.trans ⟨fun h => ⟨fun j h1 h2 => ?_, h.2⟩, fun h => ⟨fun j h1 h2 => h.1 j (by omega) h2, h.2⟩⟩
          rcases Nat.lt_or_ge i j with h3 | h3
          · exact h.1 j h3 h2
          · obtain rfl : j = i := by omega
            exact ⟨he, hor⟩
        rw [if_neg (by decide)]
        simp only [toList_nil]
        have hno : entryOk (gd t i) = false → ∃ b', (some false : Option Bool) = some b' ∧ (b' = true ↔ (∀ j, i ≤ j → j < t.length → firstAt t j) ∧ upsIn t) := fun he => ⟨false, rfl, hbad fun hb => by rw [hb.1] at he; cases he⟩
        by_cases h1 : (gd t i).f1 = 1
        · rw [if_pos h1]
          have hx2 : (gd t i).f3 = false := by
            cases h : (gd t i).f3 with
            | false => rfl
            | true => have := hx h; omega
          by_cases h4 : (gd t i).f2.size = 0
          · rw [if_pos h4, if_pos (by omega), if_pos (by omega)]
            rw [dm, if_pos h1] at hb1
            exact ⟨b, hb1, hgo (by simp [entryOk, hp, h1, h4, hx2])⟩
          · rw [if_neg h4]
            exact hno (by simp [entryOk, hp, h1, h4])
        · rw [if_neg h1]
          rw [dm, if_neg h1] at hb1
          by_cases h2 : (gd t i).f1 = 2
          · rw [if_pos h2]
            by_cases h4 : (gd t i).f2.size > 20000
            · rw [if_pos (by omega)]
              exact hno (by simp [entryOk, hp, show ¬ (gd t i).f2.size ≤ 20000 by omega])
            · rw [if_neg (by omega)]
              exact ⟨b, hb1, hgo (by simp [entryOk, hp, h2, show (gd t i).f2.size ≤ 20000 by omega])⟩
          · rw [if_neg h2]
            have hx2 : (gd t i).f3 = false := by
              cases h : (gd t i).f3 with
              | false => rfl
              | true => exact absurd (hx h) h2
            by_cases h3 : (gd t i).f1 = 3
            · rw [if_pos h3]
              by_cases h4 : (gd t i).f2.size < 1
              · rw [if_pos (by omega)]
                exact hno (by simp [entryOk, hp, h3, show (gd t i).f2.size = 0 by omega])
              · rw [if_neg (by omega)]
                by_cases h5 : (gd t i).f2.size > 20000
                · rw [if_pos (by omega)]
                  exact hno (by simp [entryOk, hp, show ¬ (gd t i).f2.size ≤ 20000 by omega])
                · rw [if_neg (by omega)]
                  exact ⟨b, hb1, hgo (by simp [entryOk, hp, h3, hx2, show (gd t i).f2.size ≤ 20000 by omega, show ¬ (gd t i).f2.size = 0 by omega])⟩
            · rw [if_neg h3]
              exact hno (by simp [entryOk, h1, h2, h3])
    have hex : (gd t i).f3 = true → (gd t i).f1 ≠ 2 → entryOk (gd t i) = false := fun h3 h2 => by simp [entryOk, h3, h2]
    have htail : pathOk (gd t i).f0 = true → (0 < i → less (gd t (i - 1)).f0 (gd t i).f0 = true) →
        ∃ b, (if (gd t i).f3 = true then impl_TreeOk.j1 (k + 1) t (dm t i) t (t.length : Int) (i : Int) ((gd t i).f1 != 2) (gd t i).f0 (gd t i).f1 (gd t i).f2 (gd t i).f3 else impl_TreeOk.j1 (k + 1) t (dm t i) t (t.length : Int) (i : Int) false (gd t i).f0 (gd t i).f1 (gd t i).f2 (gd t i).f3) = some b ∧ (b = true ↔ (∀ j, i ≤ j → j < t.length → firstAt t j) ∧ upsIn t) := fun hp hor => by
      by_cases h3 : (gd t i).f3 = true
      · rw [if_pos h3]
        refine hj _ (fun h hb => ?_) (fun h => ⟨hp, fun _ => by simpa using h, hor⟩)
        have := hex h3 (by simpa using h)
        rw [hb.1] at this
        cases this
      · rw [if_neg h3]
        exact hj _ (fun h => by cases h) (fun _ => ⟨hp, fun h => absurd h h3, hor⟩)
    cases hp : pathOk (gd t i).f0 with
    | false =>
      rw [if_neg (by decide)]
      exact hj _ (fun _ hb => by have := entryOk_path hb.1; rw [hp] at this; cases this) (fun h => by cases h)
    | true =>
      rw [if_pos rfl]
      by_cases h0 : 0 < i
      · have hw2 : wrap64 ((i : Int) - 1) = ((i - 1 : Nat) : Int) := by rw [wrap64_id (by omega) (by omega)]; omega
        rw [if_pos (by omega), hw2, if_pos (by omega), if_pos (by omega), rd_gd, bl_less]
        cases ho : less (gd t (i - 1)).f0 (gd t i).f0 with
        | true => rw [if_pos rfl]; exact htail hp (fun _ => ho)
        | false =>
          rw [if_neg (by decide)]
          exact hj _ (fun _ hb => by have := hb.2 h0; rw [ho] at this; cases this) (fun h => by cases h)
      · rw [if_neg (by omega)]
        exact htail hp (fun h => absurd h h0)
theorem treeOk_iff (t : List S47) : (t.length ≤ 500 ∧ (∀ j, j < t.length → firstAt t j) ∧ upsIn t) ↔ treeOk t := by
  constructor
  · rintro ⟨h0, h1, h2⟩
    have hr : risen t t.length := fun j hj1 hj2 => (h1 j hj2).2 hj1
    refine ⟨h0, fun i hi => ⟨(h1 i hi).1, (h1 i hi).2, fun hu => ?_⟩⟩
    obtain ⟨j, hj, he, hk⟩ := h2 i hi hu
    refine ⟨j, ?_, he, hk⟩
    obtain ⟨q, hq0, hq1, hq⟩ := upOf_ok _ (entryOk_path (h1 i hi).1) hu
    have hlt : less (upOf (gd t i).f0).1 (gd t i).f0 = true := by
      unfold less
      rw [hq, bs_upto]
      exact less_begin _ _ (by rw [bs_length]; exact hq1)
    rcases Nat.lt_trichotomy j i with h | h | h
    · exact h
    · subst h
      rw [← he, less_irrefl] at hlt
      cases hlt
    · have h3 := risen_less hr h hj
      rw [he] at h3
      rw [less_asymm h3] at hlt
      cases hlt
  · rintro ⟨h0, h1⟩
    refine ⟨h0, fun j hj => ⟨(h1 j hj).1, (h1 j hj).2.1⟩, fun j hj hu => ?_⟩
    obtain ⟨q, hq, h⟩ := (h1 j hj).2.2 hu
    exact ⟨q, by omega, h⟩
theorem impl_TreeOk_eq (t : List S47) (hz : smallT t) (k : Nat) (hk : 2000 ≤ k) : ∃ b, impl_TreeOk.f k t = some b ∧ (b = true ↔ treeOk t) := by
  unfold impl_TreeOk.f
  by_cases h : t.length > 500
  · rw [if_pos (by omega)]
    exact ⟨false, rfl, ⟨fun h => (by cases h), fun h2 => by have := h2.1; omega⟩⟩
  · rw [if_neg (by omega)]
    obtain ⟨b, h1, h2⟩ := impl_TreeOk_l0 t (by omega) hz t.length k 0 (by omega) (by omega)
    refine ⟨b, h1, h2.trans (Iff.trans ?_ (treeOk_iff t))⟩
    exact ⟨fun h3 => ⟨by omega, fun j hj => h3.1 j (Nat.zero_le _) hj, h3.2⟩, fun h3 => ⟨fun j _ hj => h3.2.1 j hj, h3.2.2⟩⟩
end Go.Proofs.YtgghefjkkidaoaaDoor.P
end

section
set_option linter.unusedVariables false
set_option linter.unusedSimpArgs false
namespace Go.Proofs.YtgghefjkkidaoaaDoor.P
open Go.RowKit Go.Proofs.YtgghefjkkidaoaaDoorW.PrintWords Go.Proofs.YtgghefjkkidaoaaDoorW.PrintLast Go.Proofs.YtgghefjkkidaoaaDoorM
def vi : Nat → Nat → List Int
  | 0, _ => []
  | k + 1, v => if 128 ≤ v then ((v % 128 + 128 : Nat) : Int) :: vi k (v / 128) else [(v : Int)]
end Go.Proofs.YtgghefjkkidaoaaDoor.P
end

section
set_option linter.unusedVariables false
set_option linter.unusedSimpArgs false
namespace Go.Proofs.YtgghefjkkidaoaaDoor.P
open Go.RowKit Go.Proofs.YtgghefjkkidaoaaDoorW.PrintWords Go.Proofs.YtgghefjkkidaoaaDoorW.PrintLast Go.Proofs.YtgghefjkkidaoaaDoorM
def gl (t : List S44) (i : Nat) : S44 := t.getD i z44
theorem rd_gl (t : List S44) (i : Nat) : rd_T44 t (i : Int) = gl t i := by simp [rd_T44, gl]
def fits (t : List S44) : Prop := t.length ≤ 9223372036854775807 ∧ ∀ i, (gl t i).f0.size ≤ 9223372036854775807 ∧ (gl t i).f2.size ≤ 9223372036854775807
theorem fits_of (t : List S44) (hl : t.length ≤ maxLen) (hg : ∀ a ∈ t, a.f0.size ≤ maxLen ∧ (Lit.int .i64 a.f1).wf = true ∧ a.f2.size ≤ maxLen ∧ True) : fits t := by
  unfold maxLen at hl hg
  refine ⟨by omega, fun i => ?_⟩
  rcases Nat.lt_or_ge i t.length with h | h
  · have hm : gl t i ∈ t := by
      unfold gl
      rw [List.getD_eq_getElem?_getD, List.getElem?_eq_getElem h]
      exact List.getElem_mem h
    have := hg _ hm
    omega
  · have : gl t i = z44 := by
      unfold gl
      rw [List.getD_eq_getElem?_getD, List.getElem?_eq_none h]; rfl
    rw [this]
    decide
def cv (e : S44) : S47 := ⟨e.f0, e.f1, e.f2, e.f3⟩
theorem gd_cv (t : List S44) (i : Nat) : gd (t.map cv) i = cv (gl t i) := by
  unfold gd gl
  rw [List.getD_eq_getElem?_getD, List.getD_eq_getElem?_getD, List.getElem?_map]
  cases t[i]? <;> rfl
theorem gl_beyond (t : List S44) (i : Nat) (h : t.length ≤ i) : gl t i = z44 := by
  unfold gl
  rw [List.getD_eq_getElem?_getD, List.getElem?_eq_none h]; rfl
theorem laws_szEntry_eq (p : ByteArray) (n : Int) (d : ByteArray) (x : Bool) (a : Int) (hp : p.size ≤ 9223372036854775807) (hd : d.size ≤ 9223372036854775807) (ha : 0 ≤ a) (hb : a ≤ 1048576) :
    ∃ r, laws_szEntry.f p n d x a = some r ∧ r ≤ a ∧ (0 ≤ r → p.size ≤ 1048576 ∧ d.size ≤ 1048576) := by
  unfold laws_szEntry.f
  rw [wrap64_id (n := a - (p.size : Int)) (by omega) (by omega)]
  by_cases h : a - (p.size : Int) < 0
  · rw [if_pos h]; exact ⟨_, rfl, by omega, by omega⟩
  · rw [if_neg h, wrap64_id (by omega) (by omega)]
    by_cases h2 : a - (p.size : Int) - (d.size : Int) < 0
    · rw [if_pos h2]; exact ⟨_, rfl, by omega, by omega⟩
    · rw [if_neg h2]; exact ⟨_, rfl, by omega, by omega⟩
theorem laws_szEntryS_l0 (t : List S44) (hf : fits t) : ∀ (n k i : Nat) (a : Int), n + 1 ≤ k → i + n = t.length → 0 ≤ a → a ≤ 1048576 →
    ∃ r, laws_szEntryS.l0 k t a (i : Int) = some r ∧ (0 ≤ r → ∀ j, i ≤ j → j < t.length → (gl t j).f0.size ≤ 1048576 ∧ (gl t j).f2.size ≤ 1048576) := by
  intro n
  induction n with
  | zero =>
    intro k i a hk hi _ _
    obtain ⟨k, rfl⟩ : ∃ k', k = k' + 1 := ⟨k - 1, by omega⟩
    rw [laws_szEntryS.l0, if_neg (by omega)]
    exact ⟨_, rfl, fun _ j h1 h2 => by omega⟩
  | succ n ih =>
    intro k i a hk hi h0 h1
    have hl := hf.1
    obtain ⟨k, rfl⟩ : ∃ k', k = k' + 1 := ⟨k - 1, by omega⟩
    have hw : wrap64 ((i : Int) + 1) = ((i + 1 : Nat) : Int) := by rw [wrap64_id (by omega) (by omega)]; omega
    obtain ⟨r, hr, hra, hr2⟩ := laws_szEntry_eq (gl t i).f0 (gl t i).f1 (gl t i).f2 (gl t i).f3 a (hf.2 i).1 (hf.2 i).2 h0 h1
    rw [laws_szEntryS.l0, if_pos (by omega), if_pos (by omega), rd_gl, hr, Option.bind_some, hw]
    by_cases hneg : r < 0
    · rw [if_pos hneg]; exact ⟨_, rfl, by omega⟩
    · rw [if_neg hneg]
      obtain ⟨q, hq, hq2⟩ := ih k (i + 1) r (by omega) (by omega) (by omega) (by omega)
      refine ⟨q, hq, fun h j h3 h4 => ?_⟩
      rcases Nat.lt_or_ge i j with h5 | h5
      · exact hq2 h j h5 h4
      · obtain rfl : j = i := by omega
        exact hr2 (by omega)
theorem laws_szEntryS_eq (t : List S44) (hf : fits t) (k : Nat) (hk : t.length + 1 ≤ k) :
    ∃ r, laws_szEntryS.f k t 1048576 = some r ∧ (0 ≤ r → t.length ≤ 1048576 ∧ ∀ i, (gl t i).f0.size ≤ 1048576 ∧ (gl t i).f2.size ≤ 1048576) := by
  have hl := hf.1
  unfold laws_szEntryS.f
  rw [wrap64_id (by omega) (by omega)]
  by_cases h : 1048576 - (t.length : Int) < 0
  · rw [if_pos h]; exact ⟨_, rfl, by omega⟩
  · rw [if_neg h]
    obtain ⟨r, hr, h2⟩ := laws_szEntryS_l0 t hf t.length k 0 (1048576 - (t.length : Int)) hk (by omega) (by omega) (by omega)
    refine ⟨r, hr, fun h3 => ⟨by omega, fun i => ?_⟩⟩
    rcases Nat.lt_or_ge i t.length with h4 | h4
    · exact h2 h3 i (Nat.zero_le _) h4
    · rw [gl_beyond t i h4]; decide
theorem laws_toEntryS_l0 (t : List S44) (hl : t.length ≤ 1048576) : ∀ (n k i : Nat), n + 1 ≤ k → i + n = t.length →
    laws_toEntryS.l0 k t ((t.take i).map cv ++ List.replicate n z47) (i : Int) = some (t.map cv) := by
  intro n
  induction n with
  | zero =>
    intro k i hk hi
    obtain ⟨k, rfl⟩ : ∃ k', k = k' + 1 := ⟨k - 1, by omega⟩
    rw [laws_toEntryS.l0, if_neg (by omega), List.take_of_length_le (by omega)]
    simp
  | succ n ih =>
    intro k i hk hi
    obtain ⟨k, rfl⟩ : ∃ k', k = k' + 1 := ⟨k - 1, by omega⟩
    have hw : wrap64 ((i : Int) + 1) = ((i + 1 : Nat) : Int) := by rw [wrap64_id (by omega) (by omega)]; omega
    have hlt : i < t.length := by omega
    have htl : ((t.take i).map cv).length = i := by simp; omega
    rw [laws_toEntryS.l0, if_pos (by omega), if_pos (by omega), rd_gl]
    unfold laws_toEntry.f
    rw [Option.bind_some, if_pos (by simp; omega), hw, Int.toNat_natCast]
    have e : ((t.take i).map cv ++ List.replicate (n + 1) z47).set i ⟨(gl t i).f0, (gl t i).f1, (gl t i).f2, (gl t i).f3⟩ = (t.take (i + 1)).map cv ++ List.replicate n z47 := by
      rw [List.set_append_right _ _ (by omega), htl, Nat.sub_self, List.replicate_succ, List.set_cons_zero, List.take_succ_eq_append_getElem hlt, List.map_append]
      simp only [List.map_cons, List.map_nil, List.append_assoc, List.singleton_append]
      have : gl t i = t[i] := by simp [gl, List.getD_eq_getElem?_getD, List.getElem?_eq_getElem hlt]
      rw [this]; rfl
    show laws_toEntryS.l0 k t (((t.take i).map cv ++ List.replicate (n + 1) z47).set i ⟨(gl t i).f0, (gl t i).f1, (gl t i).f2, (gl t i).f3⟩) _ = _
    rw [e]
    exact ih k (i + 1) (by omega) (by omega)
theorem laws_toEntryS_eq (t : List S44) (hl : t.length ≤ 1048576) (k : Nat) (hk : t.length + 1 ≤ k) : laws_toEntryS.f k t = some (t.map cv) := by
  unfold laws_toEntryS.f
  rw [if_pos (by omega), if_pos (by omega), Int.toNat_natCast]
  have := laws_toEntryS_l0 t hl t.length k 0 hk (by omega)
  simpa using this
theorem laws_eqEntryS_l0 (t : List S47) (hl : t.length ≤ 1048576) : ∀ (n k i : Nat), n + 1 ≤ k → i + n = t.length → laws_eqEntryS.l0 k t t (i : Int) = some true := by
  intro n
  induction n with
  | zero =>
    intro k i hk hi
    obtain ⟨k, rfl⟩ : ∃ k', k = k' + 1 := ⟨k - 1, by omega⟩
    rw [laws_eqEntryS.l0, if_neg (by omega)]
  | succ n ih =>
    intro k i hk hi
    obtain ⟨k, rfl⟩ : ∃ k', k = k' + 1 := ⟨k - 1, by omega⟩
    have hw : wrap64 ((i : Int) + 1) = ((i + 1 : Nat) : Int) := by rw [wrap64_id (by omega) (by omega)]; omega
    rw [laws_eqEntryS.l0, if_pos (by omega), if_pos (by omega), if_pos (by omega), hw]
    unfold laws_eqEntry.f
    rw [if_pos rfl, if_pos rfl, if_pos rfl, if_neg (by simp), Option.bind_some, if_pos rfl]
    exact ih k (i + 1) (by omega) (by omega)
theorem laws_eqEntryS_refl (t : List S47) (hl : t.length ≤ 1048576) (k : Nat) (hk : t.length + 1 ≤ k) : laws_eqEntryS.f k t t = some true := by
  unfold laws_eqEntryS.f
  rw [if_pos rfl]
  exact laws_eqEntryS_l0 t hl t.length k 0 hk (by omega)
theorem size_one (c : Int) : (strOfNums [c]).size = 1 := rfl
theorem laws_markText_l0 : ∀ (n k : Nat) (x : Int) (s : ByteArray), n + 1 ≤ k → x < 10 ^ n → s.size + n ≤ 1000 → ∃ r, laws_markText.l0 k x s = some r := by
  intro n
  induction n with
  | zero =>
    intro k x s hk hx hs
    obtain ⟨k, rfl⟩ : ∃ k', k = k' + 1 := ⟨k - 1, by omega⟩
    rw [laws_markText.l0, if_neg (by simp at hx; omega), if_pos (by omega)]
    exact ⟨_, rfl⟩
  | succ n ih =>
    intro k x s hk hx hs
    obtain ⟨k, rfl⟩ : ∃ k', k = k' + 1 := ⟨k - 1, by omega⟩
    rw [laws_markText.l0]
    by_cases h : x > 0
    · rw [if_pos h, Option.bind_some, size_one, if_pos (by omega)]
      refine ih k _ _ (by omega) ?_ (by rw [ByteArray.size_append, size_one]; omega)
      rw [Int.tdiv_eq_ediv_of_nonneg (by omega)]
      have h1 : x / 10 < 10 ^ n := by rw [Int.pow_succ] at hx; omega
      by_cases h2 : x / 10 ≤ 9223372036854775807
      · rw [wrap64_id (by omega) h2]; exact h1
      · unfold wrap64; omega
    · rw [if_neg h, if_pos (by omega)]
      exact ⟨_, rfl⟩
theorem laws_markText_eq (k : Nat) (x : Int) (hx : x < 10000000000) (hk : 11 ≤ k) : ∃ r, laws_markText.f k x = some r := by
  unfold laws_markText.f
  by_cases h : x ≤ 0
  · rw [if_pos h]; exact ⟨_, rfl⟩
  · rw [if_neg h]; exact laws_markText_l0 10 k x _ hk hx (by decide)
end Go.Proofs.YtgghefjkkidaoaaDoor.P
end

section
set_option linter.unusedVariables false
set_option linter.unusedSimpArgs false
namespace Go.Proofs.YtgghefjkkidaoaaDoor.P
open Go.RowKit Go.Proofs.YtgghefjkkidaoaaDoorW.PrintWords Go.Proofs.YtgghefjkkidaoaaDoorW.PrintLast Go.Proofs.YtgghefjkkidaoaaDoorM
def mt (a : Int) : ByteArray := (laws_markText.f 11 a).getD ByteArray.empty
theorem markText_mt (k : Nat) (a : Int) (ha : a < 10000000000) (hk : 11 ≤ k) : laws_markText.f k a = some (mt a) := by
  obtain ⟨r, hr⟩ := laws_markText_eq 11 a ha (Nat.le_refl _)
  have h2 := at_rounds (fun k => laws_markText.mono a k) hk hr
  rw [h2]
  unfold mt
  rw [hr]; rfl
def mEnt (a : Nat) : S47 := ⟨mt a, ((a + 1 : Nat) : Int), mt ((a + 2 : Nat) : Int), (Int.tmod ((a + 3 : Nat) : Int) 3 == 0)⟩
def mE (a : Nat) : Nat → List S47
  | 0 => []
  | n + 1 => mEnt a :: mE (a + 4) n
theorem mE_length : ∀ n a, (mE a n).length = n
  | 0, _ => rfl
  | n + 1, a => by rw [mE, List.length_cons, mE_length n]
theorem mE_snoc : ∀ n a, mE a (n + 1) = mE a n ++ [mEnt (a + 4 * n)]
  | 0, a => rfl
  | n + 1, a => by
    rw [mE, mE_snoc n (a + 4), mE, show a + 4 + 4 * n = a + 4 * (n + 1) by omega]
    rfl
theorem mE_gd : ∀ n a i, i < n → gd (mE a n) i = mEnt (a + 4 * i)
  | 0, _, _, h => by omega
  | n + 1, a, 0, _ => rfl
  | n + 1, a, i + 1, h => by
    have := mE_gd n (a + 4) i (by omega)
    unfold gd at this ⊢
    rw [mE, List.getD_cons_succ, this, show a + 4 + 4 * i = a + 4 * (i + 1) by omega]
theorem rd_set (l : List S47) (i : Nat) (v : S47) (h : i < l.length) : rd_T47 (l.set i v) (i : Int) = v := by
  unfold rd_T47
  rw [Int.toNat_natCast, List.getD_eq_getElem?_getD, List.getElem?_set_self h]; rfl
theorem laws_markEntryS_run : ∀ (n k i : Nat) (t : List S47), i + n ≤ 1048576 → n + 15 ≤ k → t.length = n →
    laws_markEntryS.l0 k (mE 1 i ++ t) ((4 * i + 1 : Nat) : Int) (i : Int) = some (((4 * (i + n) + 1 : Nat) : Int), mE 1 (i + n)) := by
  intro n
  induction n with
  | zero =>
    intro k i t hl hk ht
    obtain ⟨k, rfl⟩ : ∃ k', k = k' + 1 := ⟨k - 1, by omega⟩
    obtain rfl := List.eq_nil_of_length_eq_zero ht
    have hm := mE_length i 1
    rw [laws_markEntryS.l0, if_neg (by simp [hm])]
    simp
  | succ n ih =>
    intro k i t hl hk ht
    obtain ⟨k, rfl⟩ : ∃ k', k = k' + 1 := ⟨k - 1, by omega⟩
    obtain ⟨x, t, rfl⟩ : ∃ x t', t = x :: t' := by cases t with
      | nil => cases ht
      | cons x t => exact ⟨x, t, rfl⟩
    have hm := mE_length i 1
    have hlen : i < (mE 1 i ++ x :: t).length := by simp [hm]
    have hw : wrap64 ((i : Int) + 1) = ((i + 1 : Nat) : Int) := by rw [wrap64_id (by omega) (by omega)]; omega
    have w1 : wrap64 (((4 * i + 1 : Nat) : Int) + 1) = ((4 * i + 1 + 1 : Nat) : Int) := by rw [wrap64_id (by omega) (by omega)]; omega
    have w2 : wrap64 (((4 * i + 1 + 1 : Nat) : Int) + 1) = ((4 * i + 1 + 2 : Nat) : Int) := by rw [wrap64_id (by omega) (by omega)]; omega
    have w3 : wrap64 (((4 * i + 1 + 2 : Nat) : Int) + 1) = ((4 * i + 1 + 3 : Nat) : Int) := by rw [wrap64_id (by omega) (by omega)]; omega
    have w4 : wrap64 (((4 * i + 1 + 3 : Nat) : Int) + 1) = ((4 * (i + 1) + 1 : Nat) : Int) := by rw [wrap64_id (by omega) (by omega)]; omega
    rw [laws_markEntryS.l0, if_pos (by omega), markText_mt k _ (by omega) (by omega), Option.bind_some, if_pos (by omega), Option.bind_some, Option.bind_some, w1, w2,
      markText_mt k _ (by omega) (by omega), Option.bind_some, Option.bind_some, w3, w4, hw, Int.toNat_natCast]
    have hl1 : ∀ v, i < ((mE 1 i ++ x :: t).set i v).length := fun v => by rw [List.length_set]; exact hlen
    simp only [rd_set _ i _ hlen, List.set_set]
    have e : (mE 1 i ++ x :: t).set i (⟨mt ((4 * i + 1 : Nat) : Int), ((4 * i + 1 + 1 : Nat) : Int), mt ((4 * i + 1 + 2 : Nat) : Int), (Int.tmod ((4 * i + 1 + 3 : Nat) : Int) 3 == 0)⟩ : S47) = mE 1 (i + 1) ++ t := by
      rw [List.set_append_right _ _ (by omega), hm, Nat.sub_self, List.set_cons_zero, mE_snoc, show 1 + 4 * i = 4 * i + 1 by omega]
      simp [mEnt]
    rw [e, ih k (i + 1) t (by omega) (by omega) (by simpa using ht), show i + 1 + n = i + (n + 1) by omega]
theorem laws_markEntryS_mE (t : List S47) (hl : t.length ≤ 1048576) (k : Nat) (hk : t.length + 15 ≤ k) : laws_markEntryS.f k t 1 = some (((4 * t.length + 1 : Nat) : Int), mE 1 t.length) := by
  have := laws_markEntryS_run t.length k 0 t (by omega) hk rfl
  simpa [laws_markEntryS.f, mE] using this
theorem laws_heldEntryS_l0 (m : Nat) (hl : m ≤ 1048576) : ∀ (n k i : Nat), i + n = m → n + 15 ≤ k → laws_heldEntryS.l0 k (mE 1 m) ((4 * i + 1 : Nat) : Int) (i : Int) = some ((4 * m + 1 : Nat) : Int) := by
  intro n
  induction n with
  | zero =>
    intro k i hi hk
    obtain ⟨k, rfl⟩ : ∃ k', k = k' + 1 := ⟨k - 1, by omega⟩
    obtain rfl : i = m := by omega
    rw [laws_heldEntryS.l0, if_neg (by rw [mE_length]; omega)]
  | succ n ih =>
    intro k i hi hk
    obtain ⟨k, rfl⟩ : ∃ k', k = k' + 1 := ⟨k - 1, by omega⟩
    have hw : wrap64 ((i : Int) + 1) = ((i + 1 : Nat) : Int) := by rw [wrap64_id (by omega) (by omega)]; omega
    have w1 : wrap64 (((4 * i + 1 : Nat) : Int) + 1) = ((4 * i + 1 + 1 : Nat) : Int) := by rw [wrap64_id (by omega) (by omega)]; omega
    have w2 : wrap64 (((4 * i + 1 + 1 : Nat) : Int) + 1) = ((4 * i + 1 + 2 : Nat) : Int) := by rw [wrap64_id (by omega) (by omega)]; omega
    have w3 : wrap64 (((4 * i + 1 + 2 : Nat) : Int) + 1) = ((4 * i + 1 + 3 : Nat) : Int) := by rw [wrap64_id (by omega) (by omega)]; omega
    have w4 : wrap64 (((4 * i + 1 + 3 : Nat) : Int) + 1) = ((4 * (i + 1) + 1 : Nat) : Int) := by rw [wrap64_id (by omega) (by omega)]; omega
    have hr : gd (mE 1 m) i = mEnt (4 * i + 1) := by rw [mE_gd m 1 i (by omega), Nat.add_comm]
    rw [laws_heldEntryS.l0, if_pos (by rw [mE_length]; omega), if_pos (by omega), markText_mt k _ (by omega) (by omega), Option.bind_some, w1, w2, markText_mt k _ (by omega) (by omega), Option.bind_some, w3, w4, hw, rd_gd, hr]
    simp only [mEnt, if_true, bne_self_eq_false, Bool.false_eq_true, if_false]
    exact ih k (i + 1) (by omega) (by omega)
theorem laws_heldEntryS_mE (m : Nat) (hl : m ≤ 1048576) (k : Nat) (hk : m + 15 ≤ k) : laws_heldEntryS.f k (mE 1 m) 1 = some ((4 * m + 1 : Nat) : Int) :=
  laws_heldEntryS_l0 m hl m k 0 (by omega) hk
end Go.Proofs.YtgghefjkkidaoaaDoor.P
end

section
set_option linter.unusedVariables false
set_option linter.unusedSimpArgs false
namespace Go.Proofs.YtgghefjkkidaoaaDoor.P
open Go.RowKit Go.Proofs.YtgghefjkkidaoaaDoorW.PrintWords Go.Proofs.YtgghefjkkidaoaaDoorW.PrintLast Go.Proofs.YtgghefjkkidaoaaDoorM
def pre (q s : ByteArray) : Bool := decide ((bs s).take q.size = bs q)
theorem pre_le {q s : ByteArray} (h : pre q s = true) : q.size ≤ s.size := by
  have h1 := congrArg List.length (of_decide_eq_true h)
  rw [List.length_take, bs_length, bs_length] at h1
  omega
theorem beq_upto (q s : ByteArray) : ((s.extract 0 q.size).toList == q.toList) = pre q s := by
  rw [toList_bs, toList_bs, bs_upto]
  unfold pre
  by_cases h : (bs s).take q.size = bs q
  · rw [h]; simp
  · rw [decide_eq_false h]; simpa using h
def slash (p : ByteArray) : ByteArray := p ++ ⟨#[47]⟩
theorem slash_size (p : ByteArray) : (slash p).size = p.size + 1 := by rw [slash, ByteArray.size_append]; rfl
theorem spec_l10Under_eq (s p : ByteArray) (hp : p.size ≤ 1048576) : spec_l10Under.f s p = some (pre (slash p) s) := by
  have hs := slash_size p
  unfold spec_l10Under.f
  rw [wrap64_id (by omega) (by omega)]
  by_cases h : p.size < s.size
  · rw [if_pos (by omega), if_pos (by omega), if_pos (by omega), if_pos (by omega)]
    have e : ((p.size : Int) + 1).toNat = (slash p).size := by omega
    rw [e]
    exact congrArg some (beq_upto (slash p) s)
  · rw [if_neg (by omega)]
    cases hq : pre (slash p) s with
    | false => rfl
    | true => exact absurd (pre_le hq) (by omega)
theorem first_spec (p : ByteArray) : ∀ (l : List S47) (i : Nat), (impl_entryAt.first p l (i : Int) = -1 ∧ ∀ e ∈ l, e.f0 ≠ p) ∨ ∃ j, j < l.length ∧ impl_entryAt.first p l (i : Int) = ((i + j : Nat) : Int) ∧ (gd l j).f0 = p
  | [], i => .inl ⟨rfl, fun e h => by cases h⟩
  | e :: l, i => by
    rw [impl_entryAt.first]
    by_cases h : e.f0 = p
    · rw [if_pos (by rw [h]; simp)]
      exact .inr ⟨0, by simp, by simp, h⟩
    · rw [if_neg (fun hh => h (bs_inj (by rw [← toList_bs, ← toList_bs]; simpa using hh)))]
      have hi : ((i : Int) + 1) = ((i + 1 : Nat) : Int) := by omega
      rw [hi]
      rcases first_spec p l (i + 1) with ⟨h1, h2⟩ | ⟨j, h1, h2, h3⟩
      · exact .inl ⟨h1, fun x hx => by
          rcases List.mem_cons.1 hx with rfl | hx
          · exact h
          · exact h2 x hx⟩
      · refine .inr ⟨j + 1, by simp; omega, ?_, h3⟩
        rw [h2]; omega
theorem entryAt_eq (t : List S47) (p : ByteArray) : ∃ r, impl_entryAt.f t p = some r ∧ ((r = -1 ∧ ∀ i, i < t.length → (gd t i).f0 ≠ p) ∨ ∃ j : Nat, r = j ∧ j < t.length ∧ (gd t j).f0 = p) := by
  refine ⟨_, rfl, ?_⟩
  rcases first_spec p t 0 with ⟨h1, h2⟩ | ⟨j, h1, h2, h3⟩
  · exact .inl ⟨h1, fun i hi => h2 _ (gd_mem t i hi)⟩
  · exact .inr ⟨j, by rw [show ((0 : Nat) : Int) = 0 from rfl] at h2; rw [h2]; omega, h1, h3⟩
theorem treeOk_risen {t : List S47} (h : treeOk t) : risen t t.length := fun j h1 h2 => (h.2 j h2).2.1 h1
end Go.Proofs.YtgghefjkkidaoaaDoor.P
end

section
set_option linter.unusedVariables false
set_option linter.unusedSimpArgs false
namespace Go.Proofs.YtgghefjkkidaoaaDoor.P
open Go.RowKit Go.Proofs.YtgghefjkkidaoaaDoorW.PrintWords Go.Proofs.YtgghefjkkidaoaaDoorW.PrintLast Go.Proofs.YtgghefjkkidaoaaDoorM
def lessE (a b : S47) : Prop := less a.f0 b.f0 = true
theorem risen_pair (t : List S47) : risen t t.length ↔ t.Pairwise lessE := by
  rw [List.pairwise_iff_getElem]
  constructor
  · intro h i j hi hj hij
    have := risen_less h hij hj
    rwa [gd_get t i hi, gd_get t j hj] at this
  · intro h j h0 h1
    have := h (j - 1) j (by omega) h1 (by omega)
    unfold lessE at this
    rwa [gd_get t (j - 1) (by omega), gd_get t j h1]
def isDir (t : List S47) (p : ByteArray) : Prop := ∃ y ∈ t, y.f0 = p ∧ y.f1 = 1
theorem isDir_iff (t : List S47) (p : ByteArray) : isDir t p ↔ dirAt t t.length p := by
  constructor
  · rintro ⟨y, hy, h1, h2⟩
    obtain ⟨i, hi, rfl⟩ := mem_gd hy
    exact ⟨i, hi, h1, h2⟩
  · rintro ⟨i, hi, h1, h2⟩
    exact ⟨gd t i, gd_mem t i hi, h1, h2⟩
theorem treeOk_mem (t : List S47) : treeOk t ↔ t.length ≤ 500 ∧ (∀ x ∈ t, entryOk x = true) ∧ t.Pairwise lessE ∧ ∀ x ∈ t, (upOf x.f0).2 = true → isDir t (upOf x.f0).1 := by
  rw [← treeOk_iff, ← risen_pair]
  constructor
  · rintro ⟨h0, h1, h2⟩
    refine ⟨h0, fun x hx => ?_, fun j a b => (h1 j b).2 a, fun x hx hu => ?_⟩
    · obtain ⟨i, hi, rfl⟩ := mem_gd hx
      exact (h1 i hi).1
    · obtain ⟨i, hi, rfl⟩ := mem_gd hx
      exact (isDir_iff t _).2 (h2 i hi hu)
  · rintro ⟨h0, h1, h2, h3⟩
    exact ⟨h0, fun j hj => ⟨h1 _ (gd_mem t j hj), fun a => h2 j a hj⟩, fun j hj hu => (isDir_iff t _).1 (h3 _ (gd_mem t j hj) hu)⟩
theorem upOf_spec (s : ByteArray) (hu : (upOf s).2 = true) : ∃ i : Nat, ∃ hi : i < (bs s).length, (upOf s).1 = s.extract 0 i ∧ (bs s)[i] = 47 ∧ ∀ j, i < j → ∀ hj : j < (bs s).length, (bs s)[j] ≠ 47 := by
  unfold upOf at hu ⊢
  have hb : ∀ i, ∀ hi : i < (bs s).length, s.data[i]! = (bs s)[i] := fun i hi => by
    have h2 : i < s.data.size := by have := bs_length s; show i < s.size; omega
    rw [getElem!_pos s.data i h2]; simp [bs]
  rcases Lib.lastIndexByte_spec s 47 with ⟨h, _⟩ | ⟨i, hi, h, hc, hl⟩
  · rw [h, if_pos (by omega)] at hu
    cases hu
  · rw [h, if_neg (by omega)]
    have hi' : i < (bs s).length := by rw [bs_length]; exact hi
    refine ⟨i, hi', by simp, ?_, fun j hij hj he => ?_⟩
    · rw [hb i hi'] at hc
      exact UInt8.toNat_inj.mp (by show _ = 47; omega)
    · have := hl j hij (by rw [bs_length] at hj; exact hj)
      rw [hb j hj, he] at this
      exact this rfl
theorem upOf_has (s : ByteArray) (i : Nat) (hi : i < (bs s).length) (h : (bs s)[i] = 47) : (upOf s).2 = true := by
  unfold upOf
  have h2 : i < s.data.size := by have := bs_length s; show i < s.size; omega
  rcases Lib.lastIndexByte_spec s 47 with ⟨h0, hn⟩ | ⟨j, hj, hh, hc, hl⟩
  · exfalso
    refine hn i h2 ?_
    rw [getElem!_pos s.data i h2]
    have h3 : s.data[i] = (bs s)[i]'hi := by simp [bs]
    rw [h3]
    exact congrArg (fun x : UInt8 => (x.toNat : Int)) h
  · rw [hh, if_neg (by omega)]
theorem bs_slash (p : ByteArray) : bs (slash p) = bs p ++ [47] := by
  unfold slash bs
  rw [ByteArray.data_append, Array.toList_append]
theorem pre_iff (q s : ByteArray) : pre q s = true ↔ bs q <+: bs s := by
  unfold pre
  rw [decide_eq_true_iff, List.prefix_iff_eq_take, bs_length]
  exact eq_comm
theorem pre_of_up {s p : ByteArray} (hu : (upOf s).2 = true) (h : (upOf s).1 = p) : pre (slash p) s = true := by
  obtain ⟨i, hi, h1, h2, _⟩ := upOf_spec s hu
  rw [pre_iff, bs_slash, ← h, h1, bs_upto]
  refine ⟨(bs s).drop (i + 1), ?_⟩
  rw [List.append_assoc, List.singleton_append, ← h2, ← List.drop_eq_getElem_cons hi, List.take_append_drop]
theorem less_of_pre {s p : ByteArray} (h : pre (slash p) s = true) : less p s = true := by
  rw [pre_iff, bs_slash] at h
  obtain ⟨r, hr⟩ := h
  unfold less
  have h1 := less_begin (bs s) (bs p).length (by rw [← hr]; simp)
  rwa [show (bs s).take (bs p).length = bs p by rw [← hr, List.append_assoc, List.take_left]] at h1
theorem less_up (s : ByteArray) (hu : (upOf s).2 = true) : less (upOf s).1 s = true := less_of_pre (pre_of_up hu rfl)
theorem pre_up {s p : ByteArray} (h : pre (slash p) s = true) : (upOf s).2 = true ∧ ((upOf s).1 = p ∨ (pre (slash p) (upOf s).1 = true ∧ (upOf s).1.size < s.size)) := by
  rw [pre_iff, bs_slash] at h
  obtain ⟨r, hr⟩ := h
  have hpl : (bs p).length < (bs s).length := by rw [← hr]; simp
  have hp47 : (bs s)[(bs p).length] = 47 := by
    have : (bs s)[(bs p).length]? = some 47 := by rw [← hr]; simp
    rw [List.getElem?_eq_getElem hpl] at this
    exact Option.some.inj this
  have hu := upOf_has s _ hpl hp47
  obtain ⟨i, hi, h1, h2, h3⟩ := upOf_spec s hu
  refine ⟨hu, ?_⟩
  have hge : (bs p).length ≤ i := by
    rcases Nat.lt_or_ge i (bs p).length with hlt | hge
    · exact absurd hp47 (h3 _ hlt hpl)
    · exact hge
  rcases Nat.eq_or_lt_of_le hge with he | hlt
  · left
    apply bs_inj
    rw [h1, bs_upto, ← he, ← hr, List.append_assoc, List.take_left]
  · right
    constructor
    · rw [pre_iff, bs_slash, h1, bs_upto]
      rw [← hr]
      refine ⟨r.take (i - ((bs p).length + 1)), ?_⟩
      rw [List.take_append, List.take_of_length_le (l := bs p ++ [47]) (by simp; omega)]
      simp
    · rw [h1]
      have h4 : (bs (s.extract 0 i)).length = i := by rw [bs_upto, List.length_take]; omega
      rw [bs_length] at h4
      rw [bs_length] at hi
      omega
theorem climb {t : List S47} (ht : treeOk t) (p : ByteArray) : ∀ (n : Nat) (x : S47), x.f0.size ≤ n → x ∈ t → pre (slash p) x.f0 = true → ∃ x' ∈ t, (upOf x'.f0).2 = true ∧ (upOf x'.f0).1 = p := by
  intro n
  induction n with
  | zero =>
    intro x hn hx hp
    have := pre_le hp
    rw [slash_size] at this
    omega
  | succ n ih =>
    intro x hn hx hp
    obtain ⟨hu, h⟩ := pre_up hp
    rcases h with h | ⟨h1, h2⟩
    · exact ⟨x, hx, hu, h⟩
    · obtain ⟨y, hy, he, _⟩ := ((treeOk_mem t).1 ht).2.2.2 x hx hu
      exact ih y (by rw [he]; omega) hy (by rw [he]; exact h1)
def putR (e : S47) : List S47 → List S47
  | [] => [e]
  | x :: t => if less x.f0 e.f0 = true then x :: putR e t else if x.f0 = e.f0 then e :: t else e :: x :: t
theorem putR_mem (e : S47) : ∀ t : List S47, t.Pairwise lessE → ∀ x, x ∈ putR e t ↔ x = e ∨ (x ∈ t ∧ x.f0 ≠ e.f0)
  | [], _, x => by simp [putR]
  | y :: t, h, x => by
    rw [List.pairwise_cons] at h
    rw [putR]
    by_cases h1 : less y.f0 e.f0 = true
    · rw [if_pos h1, List.mem_cons, putR_mem e t h.2 x, List.mem_cons]
      constructor
      · rintro (rfl | rfl | ⟨h2, h3⟩)
        · exact .inr ⟨.inl rfl, less_ne h1⟩
        · exact .inl rfl
        · exact .inr ⟨.inr h2, h3⟩
      · rintro (rfl | ⟨rfl | h2, h3⟩)
        · exact .inr (.inl rfl)
        · exact .inl rfl
        · exact .inr (.inr ⟨h2, h3⟩)
    · rw [if_neg h1]
      by_cases h2 : y.f0 = e.f0
      · rw [if_pos h2, List.mem_cons, List.mem_cons]
        constructor
        · rintro (rfl | h3)
          · exact .inl rfl
          · exact .inr ⟨.inr h3, fun he => by have := h.1 x h3; unfold lessE at this; rw [h2, he, less_irrefl] at this; cases this⟩
        · rintro (rfl | ⟨rfl | h3, h4⟩)
          · exact .inl rfl
          · exact absurd h2 h4
          · exact .inr h3
      · rw [if_neg h2, List.mem_cons, List.mem_cons]
        have hey : less e.f0 y.f0 = true := by
          cases h3 : less e.f0 y.f0 with
          | true => rfl
          | false => exact absurd (less_tri (by simpa using h1) h3) h2
        constructor
        · rintro (rfl | rfl | h3)
          · exact .inl rfl
          · exact .inr ⟨.inl rfl, h2⟩
          · exact .inr ⟨.inr h3, fun he => by have := less_trans hey (h.1 x h3); rw [he, less_irrefl] at this; cases this⟩
        · rintro (rfl | ⟨h3, _⟩)
          · exact .inl rfl
          · exact .inr h3
theorem putR_pair (e : S47) : ∀ t : List S47, t.Pairwise lessE → (putR e t).Pairwise lessE
  | [], _ => by simp [putR]
  | y :: t, h0 => by
    have h := h0
    rw [List.pairwise_cons] at h
    rw [putR]
    by_cases h1 : less y.f0 e.f0 = true
    · rw [if_pos h1, List.pairwise_cons]
      refine ⟨fun x hx => ?_, putR_pair e t h.2⟩
      rcases (putR_mem e t h.2 x).1 hx with rfl | ⟨h2, _⟩
      · exact h1
      · exact h.1 x h2
    · rw [if_neg h1]
      by_cases h2 : y.f0 = e.f0
      · rw [if_pos h2, List.pairwise_cons]
        exact ⟨fun x hx => by have := h.1 x hx; unfold lessE at this ⊢; rwa [h2] at this, h.2⟩
      · have hey : less e.f0 y.f0 = true := by
          cases h3 : less e.f0 y.f0 with
          | true => rfl
          | false => exact absurd (less_tri (by simpa using h1) h3) h2
        rw [if_neg h2, List.pairwise_cons]
        refine ⟨fun x hx => ?_, h0⟩
        rcases List.mem_cons.1 hx with rfl | hx
        · exact hey
        · exact less_trans hey (h.1 x hx)
theorem putR_length (e : S47) : ∀ t : List S47, t.length ≤ (putR e t).length ∧ (putR e t).length ≤ t.length + 1
  | [] => by simp [putR]
  | y :: t => by
    have := putR_length e t
    rw [putR]
    split
    · simp only [List.length_cons]; omega
    · split
      · simp
      · simp
def putOk (t : List S47) (e : S47) : Prop := entryOk e = true ∧ ((upOf e.f0).2 = true → isDir t (upOf e.f0).1) ∧ (e.f1 = 1 ∨ ∀ x ∈ t, pre (slash e.f0) x.f0 = false) ∧ (putR e t).length ≤ 500
theorem putOk_iff {t : List S47} (ht : treeOk t) (e : S47) : treeOk (putR e t) ↔ putOk t e := by
  have htm := (treeOk_mem t).1 ht
  have hpw := htm.2.2.1
  rw [treeOk_mem]
  constructor
  · rintro ⟨h0, h1, h2, h3⟩
    refine ⟨h1 e ((putR_mem e t hpw e).2 (.inl rfl)), fun hu => ?_, ?_, h0⟩
    · obtain ⟨y, hy, he, hk⟩ := h3 e ((putR_mem e t hpw e).2 (.inl rfl)) hu
      rcases (putR_mem e t hpw y).1 hy with rfl | ⟨hy2, _⟩
      · have := less_up _ hu
        rw [← he, less_irrefl] at this
        cases this
      · exact ⟨y, hy2, he, hk⟩
    · by_cases hk : e.f1 = 1
      · exact .inl hk
      · refine .inr fun x hx => ?_
        cases hp : pre (slash e.f0) x.f0 with
        | false => rfl
        | true =>
          exfalso
          obtain ⟨x', hx', hu, he⟩ := climb ht e.f0 _ x (Nat.le_refl _) hx hp
          have hne : x'.f0 ≠ e.f0 := fun h4 => by
            have := less_up _ hu
            rw [he, h4, less_irrefl] at this
            cases this
          obtain ⟨y, hy, hye, hyk⟩ := h3 x' ((putR_mem e t hpw x').2 (.inr ⟨hx', hne⟩)) hu
          rcases (putR_mem e t hpw y).1 hy with rfl | ⟨_, hy3⟩
          · exact hk hyk
          · exact hy3 (hye.trans he)
  · rintro ⟨h0, h1, h2, h3⟩
    refine ⟨h3, fun x hx => ?_, putR_pair e t hpw, fun x hx hu => ?_⟩
    · rcases (putR_mem e t hpw x).1 hx with rfl | ⟨hx2, _⟩
      · exact h0
      · exact htm.2.1 x hx2
    · rcases (putR_mem e t hpw x).1 hx with rfl | ⟨hx2, _⟩
      · obtain ⟨y, hy, he, hk⟩ := h1 hu
        refine ⟨y, (putR_mem x t hpw y).2 (.inr ⟨hy, fun h4 => ?_⟩), he, hk⟩
        have := less_up _ hu
        rw [← he, h4, less_irrefl] at this
        cases this
      · obtain ⟨y, hy, he, hk⟩ := htm.2.2.2 x hx2 hu
        by_cases h4 : y.f0 = e.f0
        · refine ⟨e, (putR_mem e t hpw e).2 (.inl rfl), h4.symm.trans he, ?_⟩
          rcases h2 with h2 | h2
          · exact h2
          · have := h2 x hx2
            rw [pre_of_up hu (he.symm.trans h4)] at this
            cases this
        · exact ⟨y, (putR_mem e t hpw y).2 (.inr ⟨hy, h4⟩), he, hk⟩
end Go.Proofs.YtgghefjkkidaoaaDoor.P
end

section
set_option linter.unusedVariables false
set_option linter.unusedSimpArgs false
namespace Go.Proofs.YtgghefjkkidaoaaDoor.P
open Go.RowKit Go.Proofs.YtgghefjkkidaoaaDoorW.PrintWords Go.Proofs.YtgghefjkkidaoaaDoorW.PrintLast Go.Proofs.YtgghefjkkidaoaaDoorM
theorem spec_l10Full_l0 (t : List S47) (p : ByteArray) (hp : p.size ≤ 1048576) (hl : t.length ≤ 500) : ∀ (n k i : Nat), n + 1 ≤ k → i + n = t.length →
    ∃ b, spec_l10Full.l0 k t p (i : Int) = some b ∧ (b = true ↔ ∃ x ∈ t.drop i, pre (slash p) x.f0 = true) := by
  intro n
  induction n with
  | zero =>
    intro k i hk hi
    obtain ⟨k, rfl⟩ : ∃ k', k = k' + 1 := ⟨k - 1, by omega⟩
    rw [spec_l10Full.l0, if_neg (by omega), List.drop_eq_nil_of_le (by omega)]
    exact ⟨false, rfl, by simp⟩
  | succ n ih =>
    intro k i hk hi
    obtain ⟨k, rfl⟩ : ∃ k', k = k' + 1 := ⟨k - 1, by omega⟩
    have hw : wrap64 ((i : Int) + 1) = ((i + 1 : Nat) : Int) := by rw [wrap64_id (by omega) (by omega)]; omega
    have hlt : i < t.length := by omega
    obtain ⟨b, hb, hbb⟩ := ih k (i + 1) (by omega) (by omega)
    rw [spec_l10Full.l0, if_pos (by omega), if_pos (by omega), rd_gd, spec_l10Under_eq _ _ hp, Option.bind_some, hw, List.drop_eq_getElem_cons hlt, ← gd_get t i hlt]
    cases hq : pre (slash p) (gd t i).f0 with
    | true => exact ⟨true, by rw [if_pos rfl], by simp [hq]⟩
    | false =>
      refine ⟨b, by rw [if_neg (by decide)]; exact hb, ?_⟩
      rw [hbb]
      simp [hq]
theorem spec_l10Full_eq (t : List S47) (p : ByteArray) (hp : p.size ≤ 1048576) (hl : t.length ≤ 500) (k : Nat) (hk : 502 ≤ k) : ∃ b, spec_l10Full.f k t p = some b ∧ (b = true ↔ ∃ x ∈ t, pre (slash p) x.f0 = true) := by
  have h := spec_l10Full_l0 t p hp hl t.length k 0 (by omega) (by omega)
  rwa [List.drop_zero] at h
theorem spec_l10Copy_eq (t : List S47) (hl : t.length ≤ 1000) : spec_l10Copy.f t = some t := by
  unfold spec_l10Copy.f
  rw [Option.bind_some, if_pos (by simp; omega)]
  simp
def fin500 (t a : List S47) : List S47 × Bool := if a.length > 500 then (t, false) else (a, true)
theorem toList_ne {a b : ByteArray} (h : a ≠ b) : a.toList ≠ b.toList := fun e => h (bs_inj (by rw [← toList_bs, ← toList_bs]; exact e))
theorem eta_e (e : S47) : (⟨e.f0, e.f1, e.f2, e.f3⟩ : S47) = e := rfl
theorem put_done (t : List S47) (e : S47) (hl : t.length ≤ 500) : ∀ (n k i : Nat) (acc : List S47), 2 * n + 2 ≤ k → i + n = t.length → acc.length ≤ i + 1 → (∀ x ∈ t.drop i, x.f0 ≠ e.f0) →
    spec_l10Put.l0 k t acc true (i : Int) e.f0 e.f1 e.f2 e.f3 = some (fin500 t (acc ++ t.drop i)) := by
  intro n
  induction n with
  | zero =>
    intro k i acc hk hi ha hne
    obtain ⟨k, rfl⟩ : ∃ k', k = k' + 1 := ⟨k - 1, by omega⟩
    rw [spec_l10Put.l0, if_neg (by omega), if_pos rfl, List.drop_eq_nil_of_le (by omega), List.append_nil, spec_l10Copy_eq t (by omega)]
    unfold fin500
    by_cases h : acc.length > 500
    · rw [if_pos (by omega), if_pos h]; rfl
    · rw [if_neg (by omega), if_neg h]
  | succ n ih =>
    intro k i acc hk hi ha hne
    obtain ⟨k, rfl⟩ : ∃ k', k = k' + 2 := ⟨k - 2, by omega⟩
    have hw : wrap64 ((i : Int) + 1) = ((i + 1 : Nat) : Int) := by rw [wrap64_id (by omega) (by omega)]; omega
    have hlt : i < t.length := by omega
    rw [List.drop_eq_getElem_cons hlt, ← gd_get t i hlt] at hne ⊢
    have h1 : (gd t i).f0 ≠ e.f0 := hne _ List.mem_cons_self
    rw [spec_l10Put.l0, if_pos (by omega), if_pos rfl, spec_l10Put.j2, if_neg (by decide), if_pos (by omega), if_pos (by omega), rd_gd, if_neg (toList_ne h1), if_pos (by omega), hw,
      ih k (i + 1) _ (by omega) (by omega) (by rw [List.length_append, List.length_singleton]; omega) (fun x hx => hne x (List.mem_cons_of_mem _ hx))]
    rw [List.append_assoc, List.singleton_append]
theorem put_go (t : List S47) (e : S47) (hl : t.length ≤ 500) : ∀ (n k i : Nat) (acc : List S47), 2 * n + 2 ≤ k → i + n = t.length → acc.length ≤ i → (t.drop i).Pairwise lessE →
    spec_l10Put.l0 k t acc false (i : Int) e.f0 e.f1 e.f2 e.f3 = some (fin500 t (acc ++ putR e (t.drop i))) := by
  intro n
  induction n with
  | zero =>
    intro k i acc hk hi ha hpw
    obtain ⟨k, rfl⟩ : ∃ k', k = k' + 1 := ⟨k - 1, by omega⟩
    rw [spec_l10Put.l0, if_neg (by omega), if_neg (by decide), if_pos (by omega), Option.bind_some, List.drop_eq_nil_of_le (by omega), spec_l10Copy_eq t (by omega), putR]
    simp only [eta_e]
    unfold fin500
    by_cases h : (acc ++ [e]).length > 500
    · rw [if_pos (by omega), if_pos h]; rfl
    · rw [if_neg (by omega), if_neg h]
  | succ n ih =>
    intro k i acc hk hi ha hpw
    obtain ⟨k, rfl⟩ : ∃ k', k = k' + 2 := ⟨k - 2, by omega⟩
    have hw : wrap64 ((i : Int) + 1) = ((i + 1 : Nat) : Int) := by rw [wrap64_id (by omega) (by omega)]; omega
    have hlt : i < t.length := by omega
    rw [List.drop_eq_getElem_cons hlt, ← gd_get t i hlt] at hpw ⊢
    rw [List.pairwise_cons] at hpw
    rw [spec_l10Put.l0, if_pos (by omega), if_neg (by decide), if_pos (by omega), spec_l10Put.j2, rd_gd, bl_less, putR, hw]
    cases h1 : less (gd t i).f0 e.f0 with
    | true =>
      rw [if_neg (by decide), if_pos (by omega), if_pos (by omega), if_neg (toList_ne (less_ne h1)), if_pos (by omega),
        ih k (i + 1) _ (by omega) (by omega) (by rw [List.length_append, List.length_singleton]; omega) hpw.2]
      rw [if_pos rfl, List.append_assoc, List.singleton_append]
    | false =>
      rw [if_pos (show (!false) = true from rfl), if_pos (by omega), Option.bind_some, if_pos (by omega), if_pos (by omega), if_neg (show ¬ (false = true) by decide)]
      by_cases h2 : (gd t i).f0 = e.f0
      · rw [if_pos (by rw [h2]), if_pos h2, put_done t e hl n k (i + 1) _ (by omega) (by omega) (by rw [List.length_append, List.length_singleton]; omega)
          (fun x hx he => by have := hpw.1 x hx; unfold lessE at this; rw [h2, he, less_irrefl] at this; cases this)]
        rw [List.append_assoc, List.singleton_append]
      · have hey : less e.f0 (gd t i).f0 = true := by
          cases h3 : less e.f0 (gd t i).f0 with
          | true => rfl
          | false => exact absurd (less_tri h1 h3) h2
        rw [if_neg (toList_ne h2), if_neg h2, if_pos (by rw [List.length_append, List.length_singleton]; omega), put_done t e hl n k (i + 1) _ (by omega) (by omega) (by simp only [List.length_append, List.length_singleton]; omega)
          (fun x hx he => by have := less_trans hey (hpw.1 x hx); rw [he, less_irrefl] at this; cases this)]
        simp
open Classical in
/-- What PutEntry answers. -/
noncomputable def putOf (t : List S47) (e : S47) : List S47 × Bool := if treeOk t then (if putOk t e then (putR e t, true) else (t, false)) else ([], false)
theorem putOf_length (t : List S47) (e : S47) : (putOf t e).1.length ≤ t.length + 1 := by
  unfold putOf
  split
  · split
    · exact (putR_length e t).2
    · exact Nat.le_succ _
  · simp
theorem treeOk_pair {t : List S47} (h : treeOk t) : t.Pairwise lessE := ((treeOk_mem t).1 h).2.2.1
open Classical in
theorem spec_PutEntry_eq (t : List S47) (e : S47) (hz : smallT t) (hp : e.f0.size ≤ 1048576) (k : Nat) (hk : 2200000 ≤ k) : spec_PutEntry.f k t e.f0 e.f1 e.f2 e.f3 = some (putOf t e) := by
  obtain ⟨b, hb1, hb2⟩ := spec_TreeOk_eq t hz k (by omega)
  unfold spec_PutEntry.f putOf
  rw [hb1, Option.bind_some]
  by_cases hok : treeOk t
  · have hl := hok.1
    rw [if_pos (hb2.2 hok), if_pos hok]
    unfold spec_l10Put.f
    rw [spec_l10Up_eq _ (by omega) k (by omega), Option.bind_some, spec_l10EntryOk_eq e (by omega) k (by omega), Option.bind_some]
    obtain ⟨k, rfl⟩ : ∃ k', k = k' + 1 := ⟨k - 1, by omega⟩
    have hno : ∀ r, (spec_l10Put.j0 (k + 1) t true e.f0 e.f1 e.f2 e.f3 = some r ↔ r = (t, false)) := fun r => by
      rw [spec_l10Put.j0, if_pos rfl, spec_l10Copy_eq t (by omega), Option.bind_some]
      exact ⟨fun h => (Option.some.inj h).symm, fun h => by rw [h]⟩
    have hgo : spec_l10Put.j0 (k + 1) t false e.f0 e.f1 e.f2 e.f3 = some (fin500 t (putR e t)) := by
      have h1 := put_go t e hl t.length k 0 [] (by omega) (by omega) (by simp) (by rw [List.drop_zero]; exact treeOk_pair hok)
      rw [spec_l10Put.j0, if_neg (by decide)]
      simpa using h1
    -- what the last part says
    have hlast : ∀ b, (b = true ↔ ¬ (e.f1 = 1 ∨ ∀ x ∈ t, pre (slash e.f0) x.f0 = false)) → entryOk e = true → ((upOf e.f0).2 = true → isDir t (upOf e.f0).1) →
        spec_l10Put.j0 (k + 1) t b e.f0 e.f1 e.f2 e.f3 = some (if putOk t e then (putR e t, true) else (t, false)) := by
      intro b hb h0 h1
      cases b with
      | true =>
        rw [if_neg (fun h => hb.1 rfl h.2.2.1)]
        exact (hno _).2 rfl
      | false =>
        have h2 : e.f1 = 1 ∨ ∀ x ∈ t, pre (slash e.f0) x.f0 = false := Classical.byContradiction fun h => by cases hb.2 h
        rw [hgo]
        unfold fin500
        by_cases h3 : (putR e t).length > 500
        · rw [if_pos h3, if_neg (fun h => by have := h.2.2.2; omega)]
        · rw [if_neg h3, if_pos ⟨h0, h1, h2, by omega⟩]
    have hfull : entryOk e = true → ((upOf e.f0).2 = true → isDir t (upOf e.f0).1) → e.f1 ≠ 1 →
        ((spec_l10Full.f (k + 1) t e.f0).bind fun t589 => spec_l10Put.j0 (k + 1) t t589 e.f0 e.f1 e.f2 e.f3) = some (if putOk t e then (putR e t, true) else (t, false)) := by
      intro h0 h1 h2
      obtain ⟨b, hbf, hbb⟩ := spec_l10Full_eq t e.f0 hp hl (k + 1) (by omega)
      rw [hbf, Option.bind_some]
      refine hlast b ?_ h0 h1
      rw [hbb]
      constructor
      · rintro ⟨x, hx, hpx⟩ (h | h)
        · exact h2 h
        · rw [h x hx] at hpx; cases hpx
      · intro h
        refine Classical.byContradiction fun h3 => h (.inr fun x hx => ?_)
        cases h4 : pre (slash e.f0) x.f0 with
        | false => rfl
        | true => exact absurd ⟨x, hx, h4⟩ h3
    have hdir1 : e.f1 = 1 → ((false : Bool) = true ↔ ¬ (e.f1 = 1 ∨ ∀ x ∈ t, pre (slash e.f0) x.f0 = false)) := fun h => ⟨fun h2 => (by cases h2), fun h2 => absurd (.inl h) h2⟩
    have hbind : ∀ (a : Option (List S47 × Bool)) r, a = some r → (a.bind fun bt621 => some (bt621.1, bt621.2)) = some r := fun a r h => by rw [h]; rfl
    refine hbind _ _ ?_
    cases heo : entryOk e with
    | false =>
      rw [if_neg (by decide), if_neg (fun h => by have := h.1; rw [heo] at this; cases this)]
      exact (hno _).2 rfl
    | true =>
      rw [if_pos rfl]
      cases hu : (upOf e.f0).2 with
      | false =>
        have hun : ((upOf e.f0).2 = true → isDir t (upOf e.f0).1) := fun h => by rw [hu] at h; cases h
        rw [if_pos (by rw [upOf_no _ hu]; exact (toList_nil _).2 rfl)]
        by_cases hk1 : e.f1 = 1
        · rw [if_pos hk1]
          exact hlast false (hdir1 hk1) heo hun
        · rw [if_neg hk1]
          exact hfull heo hun hk1
      | true =>
        obtain ⟨q, hq0, hq1, hq⟩ := upOf_ok _ (entryOk_path heo) hu
        have hsz : (upOf e.f0).1.size ≠ 0 := by
          have : (bs (upOf e.f0).1).length = q := by rw [hq, bs_upto, List.length_take, bs_length]; omega
          rw [bs_length] at this
          omega
        rw [if_neg (fun h => hsz ((toList_nil _).1 h))]
        obtain ⟨b, hd1, hd2⟩ := spec_l10Dir_eq t t.length (upOf e.f0).1 (Nat.le_refl _) (by omega) (treeOk_risen hok) (k + 1) (by omega)
        rw [List.take_length] at hd1
        rw [hd1, Option.bind_some]
        cases b with
        | false =>
          rw [if_neg (by decide), if_neg (fun h => by have := hd2.2 ((isDir_iff t _).1 (h.2.1 hu)); cases this)]
          exact (hno _).2 rfl
        | true =>
          have hun : ((upOf e.f0).2 = true → isDir t (upOf e.f0).1) := fun _ => (isDir_iff t _).2 (hd2.1 rfl)
          rw [if_pos rfl]
          by_cases hk1 : e.f1 = 1
          · rw [if_pos hk1]
            exact hlast false (hdir1 hk1) heo hun
          · rw [if_neg hk1]
            exact hfull heo hun hk1
  · rw [if_neg (fun h => hok (hb2.1 h)), if_neg hok]
theorem put_first (e : S47) : ∀ (t : List S47) (i : Nat), (∀ x ∈ t, x.f0 ≠ e.f0) → (impl_PutEntry.first (impl_PutEntry.gtB e.f0) t (i : Int) = -1 ∧ putR e t = t ++ [e]) ∨ ∃ j, j ≤ t.length ∧ impl_PutEntry.first (impl_PutEntry.gtB e.f0) t (i : Int) = ((i + j : Nat) : Int) ∧ putR e t = t.take j ++ e :: t.drop j
  | [], i, _ => .inl ⟨rfl, rfl⟩
  | x :: t, i, h => by
    have hx := h x List.mem_cons_self
    rw [impl_PutEntry.first, putR]
    unfold impl_PutEntry.gtB
    rw [bl_less]
    cases h1 : less e.f0 x.f0 with
    | true =>
      refine .inr ⟨0, Nat.zero_le _, by rw [if_pos rfl]; simp, ?_⟩
      rw [if_neg (by rw [less_asymm h1]; decide), if_neg hx]
      rfl
    | false =>
      have h2 : less x.f0 e.f0 = true := by
        cases h3 : less x.f0 e.f0 with
        | true => rfl
        | false => exact absurd (less_tri h3 h1) hx
      rw [if_neg (by decide), if_pos h2, show ((i : Int) + 1) = ((i + 1 : Nat) : Int) by omega]
      rcases put_first e t (i + 1) (fun y hy => h y (List.mem_cons_of_mem _ hy)) with ⟨h3, h4⟩ | ⟨j, hj, h3, h4⟩
      · exact .inl ⟨h3, by rw [h4]; rfl⟩
      · refine .inr ⟨j + 1, by simpa using hj, ?_, by rw [h4]; rfl⟩
        refine Eq.trans h3 ?_
        congr 1
        omega
theorem put_set (e : S47) : ∀ (t : List S47) (j : Nat), t.Pairwise lessE → j < t.length → (gd t j).f0 = e.f0 → putR e t = t.set j e
  | [], _, _, h, _ => absurd h (Nat.not_lt_zero _)
  | x :: t, 0, _, _, h => by
    have h : x.f0 = e.f0 := h
    rw [putR, if_neg (by rw [h, less_irrefl]; decide), if_pos h]
    rfl
  | x :: t, j + 1, hp, hj, h => by
    rw [List.pairwise_cons] at hp
    have hj' : j < t.length := by simpa using hj
    have h' : (gd t j).f0 = e.f0 := h
    have h1 := hp.1 _ (gd_mem t j hj')
    unfold lessE at h1
    rw [h'] at h1
    rw [putR, if_pos h1, put_set e t j hp.2 hj' h']
    rfl
theorem putR_small {t : List S47} {e : S47} (hpw : t.Pairwise lessE) (hz : smallT t) (hp : e.f0.size ≤ 1048576) : smallT (putR e t) := fun i => by
  by_cases h : i < (putR e t).length
  · rcases (putR_mem e t hpw _).1 (gd_mem _ i h) with h1 | ⟨h1, _⟩
    · rw [h1]; exact hp
    · obtain ⟨j, _, hj⟩ := mem_gd h1
      rw [← hj]; exact hz j
  · unfold gd
    rw [List.getD_eq_getElem?_getD, List.getElem?_eq_none (by omega)]
    exact Nat.zero_le _
theorem impl_PutEntry_eq (t : List S47) (e : S47) (hz : smallT t) (hp : e.f0.size ≤ 1048576) (k : Nat) (hk : 3000 ≤ k) : impl_PutEntry.f k t e.f0 e.f1 e.f2 e.f3 = some (putOf t e) := by
  obtain ⟨b, hb1, hb2⟩ := impl_TreeOk_eq t hz k (by omega)
  unfold impl_PutEntry.f putOf
  rw [hb1, Option.bind_some]
  by_cases hok : treeOk t
  · have hl := hok.1
    have hpw := treeOk_pair hok
    rw [if_pos (hb2.2 hok), if_pos hok]
    unfold impl_cloneTree.f
    rw [if_pos (by omega), Option.bind_some]
    obtain ⟨r, hr, hc⟩ := entryAt_eq t e.f0
    rw [hr, Option.bind_some, if_pos (by omega)]
    have hput : impl_PutEntry.put t ⟨e.f0, e.f1, e.f2, e.f3⟩ r = some (putR e t) := by
      unfold impl_PutEntry.put
      rcases hc with ⟨rfl, hno⟩ | ⟨j, rfl, hj, he⟩
      · rw [if_pos (by omega)]
        have hne : ∀ x ∈ t, x.f0 ≠ e.f0 := fun x hx => by
          obtain ⟨i, hi, rfl⟩ := mem_gd hx
          exact hno i hi
        rcases put_first e t 0 hne with ⟨h1, h2⟩ | ⟨j, hj, h1, h2⟩
        · have h1' : impl_PutEntry.first (impl_PutEntry.gtB e.f0) t 0 = -1 := h1
          rw [h1', if_pos (by decide), List.take_length, List.drop_length, h2]
        · have h1' : impl_PutEntry.first (impl_PutEntry.gtB e.f0) t 0 = (j : Int) := by simpa using h1
          rw [h1', if_neg (by omega), if_pos (by omega), Int.toNat_natCast, h2]
      · rw [if_neg (by omega), if_pos (by omega), Int.toNat_natCast, put_set e t j hpw hj he]
    rw [hput, Option.bind_some]
    obtain ⟨b2, hb3, hb4⟩ := impl_TreeOk_eq (putR e t) (putR_small hpw hz hp) k (by omega)
    rw [hb3, Option.bind_some]
    by_cases h5 : putOk t e
    · rw [if_pos (hb4.2 ((putOk_iff hok e).2 h5)), if_pos h5]
    · rw [if_neg (fun h => h5 ((putOk_iff hok e).1 (hb4.1 h))), if_neg h5]
  · rw [if_neg (fun h => hok (hb2.1 h)), if_neg hok]
theorem laws_szEntryS_le (t : List S44) (hf : fits t) : ∀ (n k i : Nat) (a r : Int), n + 1 ≤ k → i + n = t.length → 0 ≤ a → a ≤ 1048576 → laws_szEntryS.l0 k t a (i : Int) = some r → r ≤ a := by
  intro n
  induction n with
  | zero =>
    intro k i a r hk hi _ _ h
    obtain ⟨k, rfl⟩ : ∃ k', k = k' + 1 := ⟨k - 1, by omega⟩
    rw [laws_szEntryS.l0, if_neg (by omega)] at h
    have := Option.some.inj h
    omega
  | succ n ih =>
    intro k i a r hk hi h0 h1 h
    have hl := hf.1
    obtain ⟨k, rfl⟩ : ∃ k', k = k' + 1 := ⟨k - 1, by omega⟩
    have hw : wrap64 ((i : Int) + 1) = ((i + 1 : Nat) : Int) := by rw [wrap64_id (by omega) (by omega)]; omega
    obtain ⟨q, hq, hqa, _⟩ := laws_szEntry_eq (gl t i).f0 (gl t i).f1 (gl t i).f2 (gl t i).f3 a (hf.2 i).1 (hf.2 i).2 h0 h1
    rw [laws_szEntryS.l0, if_pos (by omega), if_pos (by omega), rd_gl, hq, Option.bind_some, hw] at h
    by_cases hneg : q < 0
    · rw [if_pos hneg] at h
      have := Option.some.inj h
      omega
    · rw [if_neg hneg] at h
      have := ih k (i + 1) q r (by omega) (by omega) (by omega) (by omega) h
      omega
theorem FnExactPutEntry_pure (t : List S44) (e : S44) (hf : fits t) (hfe : e.f0.size ≤ 9223372036854775807 ∧ e.f2.size ≤ 9223372036854775807) : ∃ k, laws_FnExactPutEntry.f k t e.f0 e.f1 e.f2 e.f3 = some true := by
  refine ⟨t.length + 2200000 + 5, ?_⟩
  unfold laws_FnExactPutEntry.f
  obtain ⟨r, hr, h2⟩ := laws_szEntryS_eq t hf (t.length + 2200000 + 5) (by omega)
  rw [hr, Option.bind_some]
  by_cases hneg : r < 0
  · rw [if_pos hneg]
  have hl0 := (h2 (by omega)).1
  have hr1 : r ≤ 1048576 := by
    unfold laws_szEntryS.f at hr
    rw [wrap64_id (by omega) (by omega), if_neg (by omega)] at hr
    have := laws_szEntryS_le t hf t.length _ 0 (1048576 - (t.length : Int)) r (by omega) (by omega) (by omega) (by omega) hr
    omega
  obtain ⟨q, hq, _, hq2⟩ := laws_szEntry_eq e.f0 e.f1 e.f2 e.f3 r hfe.1 hfe.2 (by omega) hr1
  rw [if_neg hneg, hq, Option.bind_some]
  by_cases hneg2 : q < 0
  · rw [if_pos hneg2]
  · obtain ⟨hl, hz⟩ := h2 (by omega)
    have hp : (cv e).f0.size ≤ 1048576 := (hq2 (by omega)).1
    have hsm : smallT (t.map cv) := fun i => by rw [gd_cv]; exact (hz i).1
    have hbl2 : (putOf (t.map cv) (cv e)).1.length ≤ t.length + 1 := by have := putOf_length (t.map cv) (cv e); rwa [List.length_map] at this
    have hle5 : (putOf (t.map cv) (cv e)).1.length ≤ 1048576 := by
      unfold putOf
      split
      · rename_i hok
        have h5 := hok.1
        split
        · have := (putR_length (cv e) (t.map cv)).2; show (putR (cv e) (t.map cv)).length ≤ _; omega
        · show (t.map cv).length ≤ _; omega
      · simp
    have hll : (t.map cv).length ≤ 1048576 := by rw [List.length_map]; exact hl
    have hto : laws_toEntry.f e.f0 e.f1 e.f2 e.f3 = some ((cv e).f0, (cv e).f1, (cv e).f2, (cv e).f3) := rfl
    rw [if_neg hneg2, laws_toEntryS_eq t hl _ (by omega), Option.bind_some, hto, Option.bind_some]
    try simp only []
    rw [spec_PutEntry_eq _ (cv e) hsm hp _ (by omega), Option.bind_some, Option.bind_some, Option.bind_some, impl_PutEntry_eq _ (cv e) hsm hp _ (by omega), Option.bind_some]
    try simp only []
    rw [laws_eqEntryS_refl _ hle5 _ (by omega), Option.bind_some, if_pos rfl, bne_self_eq_false, laws_FnExactPutEntry.j0, if_neg (by decide), laws_toEntryS_eq t hl _ (by omega), Option.bind_some,
      laws_eqEntryS_refl _ hll _ (by rw [List.length_map]; omega), Option.bind_some, if_pos rfl, laws_markEntryS_mE _ hll _ (by rw [List.length_map]; omega), Option.bind_some]
    try simp only []
    rw [if_neg (by omega), laws_eqEntryS_refl _ hle5 _ (by omega), Option.bind_some, if_pos rfl, bne_self_eq_false, laws_FnExactPutEntry.j1, if_neg (by decide), laws_markEntryS_mE _ hle5 _ (by omega), Option.bind_some]
    try simp only []
    rw [laws_heldEntryS_mE _ hle5 _ (by omega), Option.bind_some, if_neg (by omega), if_pos rfl, laws_toEntryS_eq t hl _ (by omega), Option.bind_some, hto, Option.bind_some]
    try simp only []
    rw [impl_PutEntry_eq _ (cv e) hsm hp _ (by omega), Option.bind_some]
    try simp only []
    rw [laws_eqEntryS_refl _ hle5 _ (by omega), Option.bind_some, if_pos rfl, bne_self_eq_false, laws_FnExactPutEntry.j2, if_neg (by decide), laws_heldEntryS_mE _ hle5 _ (by omega), Option.bind_some, if_neg (by omega), if_pos rfl]
end Go.Proofs.YtgghefjkkidaoaaDoor.P
end

section
namespace Go.Proofs.YtgghefjkkidaoaaDoor.fnExactPutEntry
open Go.ChangeShapes Go.WideShapes Go.ChangeAt Go.RowKit Go.Proofs.YtgghefjkkidaoaaDoorM
set_option linter.unusedVariables false
set_option maxRecDepth 100000
theorem own : ownKnob Tryd.prog.godebug = none := by kernel_rfl
theorem laidOut : laidOutB Tryd.prog = true := by kernel_rfl
def gok44 (b : P.S44) : Prop := b.f0.size ≤ maxLen ∧ (Lit.int .i64 b.f1).wf = true ∧ b.f2.size ≤ maxLen ∧ True
theorem opn44 (w : World) : Opn Tryd.prog w 44 P.k44 gok44 :=
  Opn.iso _ (fun y => ⟨y.1, y.2.1, y.2.2.1, y.2.2.2⟩) (fun _ => rfl) (Opn.struct Tryd.underlying44 (OpnF.cons _ rfl (by kernel_rfl) rfl (Opn.string Tryd.underlying9) (OpnF.cons _ rfl (by kernel_rfl) rfl (Opn.int Tryd.underlying2) (OpnF.cons _ rfl (by kernel_rfl) rfl (Opn.string Tryd.underlying9) (OpnF.last _ rfl rfl (by kernel_rfl) (Opn.bool Tryd.underlying4))))))
theorem env {W : World} (h : W.ShapedOpen Tryd.prog) : EnvW W :=
  ⟨Go.Proofs.cell_of_shapedOpen_int (zero := #[.int .i64 0]) (t := 3) h (of_decide_eq_true (by kernel_rfl)) (by kernel_rfl) rfl (by kernel_rfl) (by kernel_rfl) Tryd.underlying3⟩
theorem contract (H : Type) (enc : TypeId × Value → H) (W : World) (base : Nat) (args : Array Value) (ds gs : List (DataW H)) (before : List MemPlace)
    (hval0 : ∀ (j : Nat) t v, Tryd.f9.params[j]? = some t → args[j]? = some v → Value.okWide Tryd.prog W .any base t v)
    (hW : DataW.Whole enc Tryd.prog Tryd.f9.params.toList Rows.fnExactPutEntrySpec.vars false W args.toList ds gs before) (hS : W.ShapedOpen Tryd.prog) :
    Calls Tryd.prog 9 args W fun e W' => ∃ v, e = .returned v ∧ Rows.fnExactPutEntrySpec.post enc Tryd.prog Tryd.f9 false true false false W args v W' := by
  have hval := hval0
  have hW' := hW
  obtain ⟨p, q, hA0, hV, rfl, hfz, hnd⟩ := hW
  have hA : DataW.TrodAll enc Tryd.prog W 0 (fun _ => true) true Tryd.f9.params.toList args.toList ds p := hA0
  rw [Tryd.params9] at hA hval
  obtain ⟨v0, vs0, d0, ds0, p0, q0, hargs, rfl, rfl, h0, r0⟩ := trodAll_cons hA
  obtain ⟨v1, vs1, d1, ds1, p1, q1, rfl, rfl, rfl, h1, r1⟩ := trodAll_cons r0
  obtain ⟨rfl, rfl, rfl⟩ := trodAll_nil r1
  obtain rfl : args = #[v0, v1] := by cases args; simp_all
  obtain ⟨rfl, rfl⟩ := trodVars_none hV
  have k0 := h0
  have lt0 : ∀ x ∈ p0, x.block < W.heap.size := by obtain ⟨m, hm⟩ := k0; exact DataW.trod_lt m _ _ _ hm
  obtain ⟨l0, A0, c0, rfl, hc0, hr0, hl0, hg0⟩ := Opn.argSlice Tryd.underlying22 (by kernel_rfl) (opn44 W) (hval 0 22 v0 rfl rfl) h0
  have k1 := h1
  have lt1 : ∀ x ∈ p1, x.block < W.heap.size := by obtain ⟨m, hm⟩ := k1; exact DataW.trod_lt m _ _ _ hm
  obtain ⟨cc1, rfl, _⟩ := okWide_struct Tryd.underlying44 (hval 1 44 v1 rfl rfl)
  obtain ⟨s1, hs1, hg1⟩ := (opn44 W).arg h1
  have hcc1 := P.k44_open hs1
  obtain rfl : cc1 = #[.string s1.f0, .int .i64 s1.f1, .string s1.f2, .bool s1.f3] := Array.ext' hcc1
  clear hA0 hval0
  obtain ⟨k, hk⟩ := P.FnExactPutEntry_pure l0 s1 (P.fits_of l0 hl0 hg0) ⟨hg1.1, hg1.2.2.1⟩
  refine (P.laws_FnExactPutEntry.calls k A0 c0 l0 s1.f0 s1.f1 s1.f2 s1.f3 true W (env hS) hr0 hc0 hk).mono fun e W' ⟨he, bel⟩ => ?_
  subst he
  exact ⟨_, rfl, _, _, _, [], _, [], hW', trodAll_mk1 (shut_bool Tryd.underlying4 _), (trodAll_cons_mk (Below.trod laidOut (by kernel_rfl) (of_decide_eq_true (by kernel_rfl)) k0 bel lt0) (trodAll_cons_mk (Below.trod laidOut (by kernel_rfl) (of_decide_eq_true (by kernel_rfl)) k1 bel lt1) trodAll_mk0)), rfl, bel.frame _, fun h => by cases h⟩
noncomputable def laidWorld (os : Os) : World :=
  { World.holding Tryd.prog os ⟨#[], #[], []⟩ with heap := (Array.modify (Array.modify (World.holding Tryd.prog os ⟨#[], #[], []⟩).heap 2 (fun o => match o with
      | .cells _ t frozen => .cells #[(.int .u8 128), (.int .u8 191), (.int .u8 160), (.int .u8 191), (.int .u8 128), (.int .u8 159), (.int .u8 144), (.int .u8 191), (.int .u8 128), (.int .u8 143), (.int .u8 0), (.int .u8 0), (.int .u8 0), (.int .u8 0), (.int .u8 0), (.int .u8 0), (.int .u8 0), (.int .u8 0), (.int .u8 0), (.int .u8 0), (.int .u8 0), (.int .u8 0), (.int .u8 0), (.int .u8 0), (.int .u8 0), (.int .u8 0), (.int .u8 0), (.int .u8 0), (.int .u8 0), (.int .u8 0), (.int .u8 0), (.int .u8 0)] t frozen
      | o => o)) 1 (fun o => match o with
      | .cells _ t frozen => .cells (Pinned.utf8FirstZ.map fun (n : Nat) => Value.int .u8 n).toArray t frozen
      | o => o)) }
theorem laid_met (os : Os) : laidMet Tryd.prog Rows.fnExactPutEntryRow.laid ((laidWorld os).forCall (fun _ _ => 0) ⟨#[], #[.slice none 0 0, .agg #[.string ByteArray.empty, .int .i64 0, .string ByteArray.empty, .bool false]], []⟩).memory :=
  laidMet_of_run' 8 (by kernel_rfl) (by kernel_rfl)
theorem reads (os : Os) {H : Type} (enc : TypeId × Value → H) : ∃ places, DataW.whole enc Tryd.prog ((laidWorld os).forCall (fun _ _ => 0) ⟨#[], #[.slice none 0 0, .agg #[.string ByteArray.empty, .int .i64 0, .string ByteArray.empty, .bool false]], []⟩).memory Tryd.f9.params.toList Rows.fnExactPutEntrySpec.vars false (#[.slice none 0 0, .agg #[.string ByteArray.empty, .int .i64 0, .string ByteArray.empty, .bool false]] : Array Value).toList 8 = some ([.nil, .agg [.lit (.string []), .lit (.int .i64 0), .lit (.string []), .lit (.bool false)]], [], places) :=
  ⟨[], by kernel_rfl⟩
theorem lifted (os : Os) (started : os.Started) (H : Type) (enc : TypeId × Value → H) (F : Stop.Interp) :
    ReturnsInHanded {} Tryd.checked os 9 .any ((OpenSpec.ofChange Rows.fnExactPutEntrySpec).preRow enc Tryd.prog Tryd.f9 Rows.fnExactPutEntryRow.domain false Rows.fnExactPutEntryRow.laid) (((OpenSpec.ofChange Rows.fnExactPutEntrySpec).at F).post enc Tryd.prog Tryd.f9 false true false false) := by
  obtain ⟨places, hx⟩ := reads os enc
  refine returnsInHanded_of_row (C := Tryd.checked) (s := OpenSpec.ofChange Rows.fnExactPutEntrySpec) own started (by kernel_rfl) Tryd.func9
    (witness_row_at (enc := enc) (C := Tryd.checked) false (laidWorld os) #[.slice none 0 0, .agg #[.string ByteArray.empty, .int .i64 0, .string ByteArray.empty, .bool false]] rfl (by kernel_rfl) (by kernel_rfl) (by kernel_rfl)
      (OpenSpec.preRow_of_cond 8 hx (by kernel_rfl) (fun k hk => by cases hk) (by kernel_rfl) (laid_met os))) ?_
  intro W base args ds gs before hval hW _ _ _ hL hS _
  exact contract H enc W base args ds gs before hval hW hS
theorem said : Rows.FnExactPutEntrySaid :=
  OpenClaim.holds_of_cond 9 Tryd.f9 rfl rfl rfl rfl rfl rfl rfl ⟨rfl, rfl, rfl, rfl, rfl⟩ rfl rfl rfl rfl rfl (by kernel_rfl) Tryd.func9 (by kernel_rfl)
    (of_decide_eq_true (by kernel_rfl)) (by unfold Func.isWrapper; first | (rw [if_pos (by decide +kernel)]; kernel_rfl) | (rw [if_neg (by decide +kernel)]; exact ⟨rfl, rfl⟩))
    (fun os started H enc _ F => by rw [OpenClaim.pre_eq_preRow]; exact lifted os started H enc F)
theorem plain (f : FuncId) (fn : Func) (hf : Tryd.pinned.checked.prog.funcNamed "loop.example/g00023/laws.FnExactPutEntry" = some f) (hfn : Tryd.pinned.checked.prog.funcs[f]? = some fn) :
    false = Tryd.pinned.checked.prog.looks [] ∧ ∀ (j : Nat) t, fn.params[j]? = some t → Tryd.pinned.checked.prog.wantsStandIn t = false := by
  obtain rfl : f = 9 := Option.some.inj ((show Tryd.prog.funcNamed "loop.example/g00023/laws.FnExactPutEntry" = some 9 by kernel_rfl).symm.trans hf) |>.symm
  obtain rfl : fn = Tryd.f9 := (Option.some.inj (Tryd.func9.symm.trans hfn)).symm
  refine ⟨by kernel_rfl, fun j t ht => ?_⟩
  rw [Tryd.params9] at ht
  have hm := Array.mem_of_getElem? ht
  simp only [List.mem_toArray, List.mem_cons, List.not_mem_nil, or_false] at hm
  rcases hm with rfl | rfl
  · exact (show Tryd.prog.wantsStandIn 22 = false by kernel_rfl)
  · exact (show Tryd.prog.wantsStandIn 44 = false by kernel_rfl)
theorem card : Rows.FnExactPutEntryCardSaid :=
  Claim7.holds_tied_plain_at .later [] _ _ _ _ said (fun _ h => by cases h) (by kernel_rfl) (fun _ h => by cases h) fnExactPutEntry_row_tie rfl ⟨rfl, rfl⟩ (by kernel_rfl) rfl plain (by kernel_rfl)
#print axioms card
end Go.Proofs.YtgghefjkkidaoaaDoor.fnExactPutEntry
namespace Go.Proofs.YtgghefjkkidaoaaDoor
/-- The card, under a short name, for the claim. -/
theorem fnExactPutEntry_card : Rows.FnExactPutEntryCardSaid := fnExactPutEntry.card
end Go.Proofs.YtgghefjkkidaoaaDoor
end
