/- Texts of Trb, put together by program. -/
import Derived.Test.YtjnmcgeahomkeaaDoorMTrb2
import Derived.Test.YtjnmcgeahomkeaaDoorMTrb5
import Derived.Test.YtjnmcgeahomkeaaDoorMTrb3
import Derived.Test.YtjnmcgeahomkeaaDoorMTrb4
import Derived.Test.YtjnmcgeahomkeaaDoorMTrb8
import Derived.Test.YtjnmcgeahomkeaaDoorMTrb6
import Derived.Test.YtjnmcgeahomkeaaDoorMTrb7
import Derived.Test.YtjnmcgeahomkeaaDoorMTrb9

section
set_option linter.unusedVariables false
set_option linter.unusedSimpArgs false
namespace Go.Proofs.YtjnmcgeahomkeaaDoor.P
open Go.RowKit Go.Proofs.YtjnmcgeahomkeaaDoorW.PrintWords
theorem wrap64_id {n : Int} (h1 : -9223372036854775808 ≤ n) (h2 : n ≤ 9223372036854775807) : wrap64 n = n := by
  unfold wrap64; omega
theorem wrap32_id {n : Int} (h1 : -2147483648 ≤ n) (h2 : n ≤ 2147483647) : wrap32 n = n := by
  unfold wrap32; omega
def bs (s : ByteArray) : List UInt8 := s.data.toList
theorem bs_length (s : ByteArray) : (bs s).length = s.size := data_length s
theorem toList_bs (s : ByteArray) : s.toList = bs s := Lib.toList_data s
theorem bs_inj {a b : ByteArray} (h : bs a = bs b) : a = b := by
  cases a; cases b
  simp only [bs] at h
  congr 1
  exact Array.ext' h
theorem bt_nat (s : ByteArray) (i : Nat) (h : i < s.size) : bt s (i : Int) = (((bs s)[i]'(by rw [bs_length]; exact h)).toNat : Int) := by
  unfold bt
  rw [dif_pos (by simpa using h)]
  simp [bs, ByteArray.getElem_eq_getElem_data]
theorem bs_nil {s : ByteArray} : bs s = [] ↔ s.size = 0 := by
  rw [← bs_length]
  exact List.length_eq_zero_iff.symm
theorem bs_extract (s : ByteArray) (a b : Nat) : bs (s.extract a b) = ((bs s).drop a).take (b - a) := Lib.extract_data s a b
theorem bs_upto (s : ByteArray) (b : Nat) : bs (s.extract 0 b) = (bs s).take b := by rw [bs_extract]; simp
end Go.Proofs.YtjnmcgeahomkeaaDoor.P
end

section
set_option linter.unusedVariables false
set_option linter.unusedSimpArgs false
namespace Go.Proofs.YtjnmcgeahomkeaaDoor.P
open Go.RowKit Go.Proofs.YtjnmcgeahomkeaaDoorW.PrintWords Go.Proofs.YtjnmcgeahomkeaaDoorW.PrintLast Go.Proofs.YtjnmcgeahomkeaaDoorM
theorem bits255 (x : Int) : 0 ≤ Go.bits .and .i64 x 255 ∧ Go.bits .and .i64 x 255 ≤ 255 := by
  unfold Go.bits
  show 0 ≤ IntKind.i64.wrap (((BitVec.ofInt 64 x) &&& (BitVec.ofInt 64 255)).toNat : Int) ∧ IntKind.i64.wrap (((BitVec.ofInt 64 x) &&& (BitVec.ofInt 64 255)).toNat : Int) ≤ 255
  have h : ((BitVec.ofInt 64 x) &&& (BitVec.ofInt 64 255)).toNat ≤ 255 := by
    rw [BitVec.toNat_and]
    exact Nat.and_le_right
  rw [i64_w, wrap64_id (by omega) (by omega)]
  omega
def cur (l : List Int) (i : Int) : Prop := 0 ≤ i ∧ i ≤ (l.length : Int) ∧ (l.length : Int) ≤ 1048576
theorem l1Byte_eq (l : List Int) (i h : Int) (hc : cur l i) : ∃ b i' h', spec_l1Byte.f l i h = some (b, i', h') ∧ 0 ≤ b ∧ b ≤ 255 ∧ cur l i' := by
  obtain ⟨h0, h1, h2⟩ := hc
  unfold spec_l1Byte.f
  by_cases hlt : i < (l.length : Int)
  · rw [if_pos hlt, if_pos h0]
    exact ⟨_, _, _, rfl, (bits255 _).1, (bits255 _).2, by rw [wrap64_id (by omega) (by omega)]; exact ⟨by omega, by omega, h2⟩⟩
  · rw [if_neg hlt]
    exact ⟨_, _, _, rfl, (bits255 _).1, (bits255 _).2, h0, h1, h2⟩
theorem l1Below_eq (l : List Int) (i h n : Int) (hc : cur l i) (h0 : 0 < n) (h1 : n ≤ 256) : ∃ b i' h', spec_l1Below.f l i h n = some (b, i', h') ∧ 0 ≤ b ∧ b < n ∧ cur l i' := by
  obtain ⟨b, i', h', e, hb0, hb1, hc'⟩ := l1Byte_eq l i h hc
  unfold spec_l1Below.f
  rw [if_neg (by omega), if_pos h1, e, Option.bind_some, if_neg (by omega)]
  refine ⟨_, _, _, rfl, ?_, ?_, hc'⟩
  · exact Int.tmod_nonneg _ hb0
  · exact Int.tmod_lt_of_pos _ h0
theorem l1Once_eq (l : List Int) (i h n : Int) (hc : cur l i) (h0 : 0 < n) (h1 : n ≤ 256) : ∃ b i' h', spec_l1Once.f l i h n = some (b, i', h') ∧ cur l i' := by
  obtain ⟨b, i', h', e, _, _, hc'⟩ := l1Below_eq l i h n hc h0 h1
  unfold spec_l1Once.f
  rw [e, Option.bind_some]
  exact ⟨_, _, _, rfl, hc'⟩
theorem l1New_l0 (l : List Int) (hl : (l.length : Int) ≤ 1048576) : ∀ (n k i : Nat) (h : Int), n + 1 ≤ k → i + n = l.length → ∃ h', spec_l1New.l0 k l h (i : Int) = some (l, 0, h') := by
  intro n
  induction n with
  | zero =>
    intro k i h hk hi
    obtain ⟨k, rfl⟩ : ∃ k', k = k' + 1 := ⟨k - 1, by omega⟩
    rw [spec_l1New.l0, if_neg (by omega)]
    exact ⟨_, rfl⟩
  | succ n ih =>
    intro k i h hk hi
    obtain ⟨k, rfl⟩ : ∃ k', k = k' + 1 := ⟨k - 1, by omega⟩
    have hw : wrap64 ((i : Int) + 1) = ((i + 1 : Nat) : Int) := by rw [wrap64_id (by omega) (by omega)]; omega
    rw [spec_l1New.l0, if_pos (by omega), if_pos (by omega), hw]
    exact ih k (i + 1) _ (by omega) (by omega)
theorem l1New_eq (l : List Int) (hl : (l.length : Int) ≤ 1048576) (k : Nat) (hk : l.length + 1 ≤ k) : ∃ h, spec_l1New.f k l = some (l, 0, h) ∧ cur l 0 := by
  obtain ⟨h, e⟩ := l1New_l0 l hl l.length k 0 (wrap64 (57731 + (l.length : Int))) hk (by omega)
  exact ⟨h, e, by omega, by omega, hl⟩
end Go.Proofs.YtjnmcgeahomkeaaDoor.P
end

section
set_option linter.unusedVariables false
set_option linter.unusedSimpArgs false
namespace Go.Proofs.YtjnmcgeahomkeaaDoor.P
open Go.RowKit Go.Proofs.YtjnmcgeahomkeaaDoorW.PrintWords
def isL (c : Int) : Bool := decide ((97 ≤ c ∧ c ≤ 122) ∨ (65 ≤ c ∧ c ≤ 90))
def isD (c : Int) : Bool := decide (48 ≤ c ∧ c ≤ 57)
def okC (c : Int) : Bool := isL c || (isD c || decide (c = 45 ∨ c = 95 ∨ c = 46 ∨ c = 43))
theorem impl_letter_eq (c : Int) : impl_letter.f c = some (isL c) := by
  unfold impl_letter.f isL
  repeat' split
  all_goals (congr 1; first | (rw [decide_eq_decide]; omega) | (symm; rw [decide_eq_true_iff]; omega) | (symm; rw [decide_eq_false_iff_not]; omega))
theorem impl_digit_eq (c : Int) : impl_digit.f c = some (isD c) := by
  unfold impl_digit.f isD
  repeat' split
  all_goals (congr 1; first | (rw [decide_eq_decide]; omega) | (symm; rw [decide_eq_true_iff]; omega) | (symm; rw [decide_eq_false_iff_not]; omega))
theorem spec_l1Letter_eq (c : Int) : spec_l1Letter.f c = some (isL c) := by
  unfold spec_l1Letter.f isL
  repeat' split
  all_goals (congr 1; first | (rw [decide_eq_decide]; omega) | (symm; rw [decide_eq_true_iff]; omega) | (symm; rw [decide_eq_false_iff_not]; omega))
theorem spec_l1Digit_eq (c : Int) : spec_l1Digit.f c = some (isD c) := by
  unfold spec_l1Digit.f isD
  repeat' split
  all_goals (congr 1; first | (rw [decide_eq_decide]; omega) | (symm; rw [decide_eq_true_iff]; omega) | (symm; rw [decide_eq_false_iff_not]; omega))
def okFrom (s : ByteArray) : Nat → Nat → Bool
  | 0, _ => true
  | n + 1, i => okC (bt s i) && okFrom s n (i + 1)
def nameOk (s : ByteArray) : Bool := decide (1 ≤ s.size) && decide (s.size ≤ 60) && (bt s 0 != 46) && okFrom s s.size 0
theorem impl_NameOk_l0 (s : ByteArray) (hs : s.size ≤ 60) : ∀ n k i : Nat, n + 1 ≤ k → i + n = s.size → impl_NameOk.l0 k s (s.size : Int) (i : Int) = some (okFrom s n i) := by
  intro n
  induction n with
  | zero =>
    intro k i hk hi
    obtain ⟨k, rfl⟩ : ∃ k', k = k' + 1 := ⟨k - 1, by omega⟩
    rw [impl_NameOk.l0, if_neg (by omega), okFrom]
  | succ n ih =>
    intro k i hk hi
    obtain ⟨k, rfl⟩ : ∃ k', k = k' + 1 := ⟨k - 1, by omega⟩
    have hw : wrap64 ((i : Int) + 1) = ((i + 1 : Nat) : Int) := by rw [wrap64_id (by omega) (by omega)]; omega
    have hr := bt_range s (i : Int)
    have ihn := ih k (i + 1) (by omega) (by omega)
    rw [impl_NameOk.l0, if_pos (by omega), if_pos (by omega), if_pos (by omega), hw, okFrom, wrap32_id (by omega) (by omega)]
    have he : (⟨#[45, 95, 46, 43]⟩ : ByteArray).data.toList = [45, 95, 46, 43] := rfl
    have hcr : strings_ContainsRune.f (⟨#[45, 95, 46, 43]⟩ : ByteArray) (bt s (i : Int)) = some (decide (bt s (i : Int) = 45 ∨ bt s (i : Int) = 95 ∨ bt s (i : Int) = 46 ∨ bt s (i : Int) = 43)) := by
      unfold strings_ContainsRune.f
      rw [if_pos he, if_pos (by omega), if_pos (by omega)]
    rw [impl_letter_eq, impl_digit_eq, hcr, ihn, okC]
    simp only [Option.bind_some]
    cases isL (bt s (i : Int)) <;> cases isD (bt s (i : Int)) <;> cases decide (bt s (i : Int) = 45 ∨ bt s (i : Int) = 95 ∨ bt s (i : Int) = 46 ∨ bt s (i : Int) = 43) <;> simp
theorem impl_NameOk_eq (s : ByteArray) (k : Nat) (hk : 63 ≤ k) : impl_NameOk.f k s = some (nameOk s) := by
  obtain ⟨k, rfl⟩ : ∃ k', k = k' + 1 := ⟨k - 1, by omega⟩
  unfold impl_NameOk.f nameOk
  by_cases h1 : s.size < 1
  · rw [if_pos (by omega), impl_NameOk.j0]
    simp; omega
  · rw [if_neg (by omega)]
    by_cases h2 : s.size > 60
    · rw [if_pos (by omega), impl_NameOk.j0]
      simp; omega
    · rw [if_neg (by omega), if_pos (by omega), impl_NameOk.j0]
      have := impl_NameOk_l0 s (by omega) s.size k 0 (by omega) (by omega)
      rw [show ((0 : Nat) : Int) = 0 from rfl] at this
      rw [this]
      by_cases h3 : bt s 0 = 46
      · simp [h3]
      · have h4 : (bt s 0 == 46) = false := by simpa using h3
        simp [h3, h4, show 1 ≤ s.size by omega, show s.size ≤ 60 by omega]
theorem spec_NameOk_l0 (s : ByteArray) (hs : s.size ≤ 60) : ∀ n k i : Nat, n + 1 ≤ k → i + n = s.size → spec_NameOk.l0 k s (i : Int) = some (okFrom s n i) := by
  intro n
  induction n with
  | zero =>
    intro k i hk hi
    obtain ⟨k, rfl⟩ : ∃ k', k = k' + 1 := ⟨k - 1, by omega⟩
    rw [spec_NameOk.l0, if_neg (by omega), okFrom]
  | succ n ih =>
    intro k i hk hi
    obtain ⟨k, rfl⟩ : ∃ k', k = k' + 1 := ⟨k - 1, by omega⟩
    have hw : wrap64 ((i : Int) + 1) = ((i + 1 : Nat) : Int) := by rw [wrap64_id (by omega) (by omega)]; omega
    have hr := bt_range s (i : Int)
    have ihn := ih k (i + 1) (by omega) (by omega)
    rw [spec_NameOk.l0, if_pos (by omega), if_pos (by omega), hw, okFrom]
    rw [spec_l1Letter_eq, spec_l1Digit_eq, ihn, okC]
    simp only [Option.bind_some]
    generalize bt s (i : Int) = c
    cases isL c <;> cases isD c <;> by_cases h7 : c = 45 <;> by_cases h8 : c = 95 <;> by_cases h9 : c = 46 <;> by_cases h10 : c = 43 <;> simp [h7, h8, h9, h10]
theorem spec_NameOk_eq (s : ByteArray) (k : Nat) (hk : 63 ≤ k) : spec_NameOk.f k s = some (nameOk s) := by
  obtain ⟨k, rfl⟩ : ∃ k', k = k' + 1 := ⟨k - 1, by omega⟩
  unfold spec_NameOk.f nameOk
  by_cases h1 : s.size < 1
  · rw [if_pos (by omega), spec_NameOk.j0]
    simp; omega
  · rw [if_neg (by omega)]
    by_cases h2 : s.size > 60
    · rw [if_pos (by omega), spec_NameOk.j0]
      simp; omega
    · rw [if_neg (by omega), if_pos (by omega), spec_NameOk.j0]
      have := spec_NameOk_l0 s (by omega) s.size k 0 (by omega) (by omega)
      rw [show ((0 : Nat) : Int) = 0 from rfl] at this
      rw [this]
      by_cases h3 : bt s 0 = 46
      · simp [h3]
      · have h4 : (bt s 0 == 46) = false := by simpa using h3
        simp [h3, h4, show 1 ≤ s.size by omega, show s.size ≤ 60 by omega]
end Go.Proofs.YtjnmcgeahomkeaaDoor.P
end

section
set_option linter.unusedVariables false
set_option linter.unusedSimpArgs false
namespace Go.Proofs.YtjnmcgeahomkeaaDoor.P
open Go.RowKit Go.Proofs.YtjnmcgeahomkeaaDoorW.PrintWords
def pcs : List UInt8 → List UInt8 → List (List UInt8)
  | cur, [] => [cur]
  | cur, c :: r => if c = 47 then cur :: pcs [] r else pcs (cur ++ [c]) r
theorem index_cons (b : UInt8) (l : List UInt8) : Lib.index (b :: l) [47] = if b = 47 then 0 else if Lib.index l [47] = -1 then -1 else Lib.index l [47] + 1 := by
  rw [Lib.index]
  by_cases hb : b = 47
  · subst hb; simp [List.isPrefixOf]
  · have : ((47 : UInt8) == b) = false := by simpa using fun e => hb e.symm
    simp [List.isPrefixOf, this, hb]
theorem pcs_miss : ∀ (l cur : List UInt8), Lib.index l [47] = -1 → pcs cur l = [cur ++ l]
  | [], cur, _ => by simp [pcs]
  | b :: l, cur, h => by
    rw [index_cons] at h
    by_cases hb : b = 47
    · rw [if_pos hb] at h; omega
    · rw [if_neg hb] at h
      by_cases hi : Lib.index l [47] = -1
      · rw [pcs, if_neg hb, pcs_miss l _ hi]; simp
      · rw [if_neg hi] at h
        have := Lib.index_ge l [47]
        omega
theorem pcs_hit : ∀ (l cur : List UInt8) (i : Nat), Lib.index l [47] = i → pcs cur l = (cur ++ l.take i) :: pcs [] (l.drop (i + 1))
  | [], cur, i, h => by simp [Lib.index] at h
  | b :: l, cur, i, h => by
    rw [index_cons] at h
    by_cases hb : b = 47
    · rw [if_pos hb] at h
      obtain rfl : i = 0 := by omega
      rw [pcs, if_pos hb]
      simp
    · rw [if_neg hb] at h
      by_cases hi : Lib.index l [47] = -1
      · rw [if_pos hi] at h; omega
      · rw [if_neg hi] at h
        have := Lib.index_ge l [47]
        obtain ⟨j, rfl⟩ : ∃ j, i = j + 1 := ⟨i - 1, by omega⟩
        rw [pcs, if_neg hb, pcs_hit l _ j (by omega)]
        simp
theorem splitK_pcs : ∀ (k : Nat) (l : List UInt8), Lib.count l [47] = k → Lib.splitK [47] 0 k l = pcs [] l
  | 0, l, h => by
    have hi : Lib.index l [47] = -1 := by
      rcases Lib.index_spec l [47] with ⟨h1, _⟩ | ⟨i, h1, _⟩
      · exact h1
      · rw [Lib.count_hit (by simp) h1] at h; omega
    rw [pcs_miss l [] hi, Lib.splitK]; rfl
  | k + 1, l, h => by
    rcases Lib.index_spec l [47] with ⟨h1, _⟩ | ⟨i, h1, _⟩
    · rw [Lib.count_miss h1] at h; omega
    · have h2 := Lib.count_hit (s := l) (sub := [47]) (by simp) h1
      rw [Lib.splitK, if_neg (by simp [h1]), pcs_hit l [] i h1, h1]
      simp only [Int.toNat_natCast, Nat.add_zero, List.nil_append]
      rw [splitK_pcs k _ (by simp at h2 ⊢; omega)]
      rfl
def nameOkL (l : List UInt8) : Bool := nameOk ⟨l.toArray⟩
theorem nameOkL_bs (s : ByteArray) : nameOkL (bs s) = nameOk s := by
  unfold nameOkL bs
  simp
def pathOk (s : ByteArray) : Bool := decide ((pcs [] (bs s)).length ≤ 8) && (pcs [] (bs s)).all nameOkL
theorem impl_pathOk_l0 (xs : List ByteArray) (hx : xs.length ≤ 8) : ∀ n k i : Nat, n + 64 ≤ k → i + n = xs.length → impl_pathOk.l0 k xs (xs.length : Int) (i : Int) = some ((xs.drop i).all nameOk) := by
  intro n
  induction n with
  | zero =>
    intro k i hk hi
    obtain ⟨k, rfl⟩ : ∃ k', k = k' + 1 := ⟨k - 1, by omega⟩
    rw [impl_pathOk.l0, if_neg (by omega), List.drop_eq_nil_of_le (by omega)]; rfl
  | succ n ih =>
    intro k i hk hi
    obtain ⟨k, rfl⟩ : ∃ k', k = k' + 1 := ⟨k - 1, by omega⟩
    have hw : wrap64 ((i : Int) + 1) = ((i + 1 : Nat) : Int) := by rw [wrap64_id (by omega) (by omega)]; omega
    have hl : i < xs.length := by omega
    rw [impl_pathOk.l0, if_pos (by omega), if_pos (by omega), if_pos (by omega), hw, impl_NameOk_eq _ _ (by omega), ih k (i + 1) (by omega) (by omega), List.drop_eq_getElem_cons hl]
    have hr : rdOf ByteArray.empty xs (i : Int) = xs[i] := by simp [rdOf, List.getD_eq_getElem?_getD, List.getElem?_eq_getElem hl]
    rw [hr, Option.bind_some, List.all_cons]
    cases nameOk xs[i] <;> simp
theorem impl_pathOk_eq (s : ByteArray) (hs : s.size < 1073741824) (k : Nat) (hk : 80 ≤ k) : impl_pathOk.f k s = some (pathOk s) := by
  unfold impl_pathOk.f strings_Split.f
  have h1 : (⟨#[47]⟩ : ByteArray).size = 1 := rfl
  rw [if_pos (by omega), if_pos (by rw [h1]; omega), Option.bind_some]
  have hm := Lib.splitB_data (⟨#[47]⟩ : ByteArray) 0 (Lib.countB s (⟨#[47]⟩ : ByteArray)) s
  have hk2 : Lib.splitK [47] 0 (Lib.countB s (⟨#[47]⟩ : ByteArray)) s.data.toList = pcs [] (bs s) := splitK_pcs _ _ rfl
  change List.map bs _ = Lib.splitK [47] 0 _ _ at hm
  rw [hk2] at hm
  generalize Lib.splitB (⟨#[47]⟩ : ByteArray) 0 (Lib.countB s (⟨#[47]⟩ : ByteArray)) s = xs at hm ⊢
  unfold pathOk
  rw [← hm]
  have ha : (xs.map bs).all nameOkL = xs.all nameOk := by
    simp only [List.all_map, Function.comp_def, nameOkL_bs]
  rw [ha, List.length_map]
  by_cases h8 : xs.length ≤ 8
  · rw [if_neg (by omega)]
    have := impl_pathOk_l0 xs h8 xs.length k 0 (by omega) (by omega)
    rw [show ((0 : Nat) : Int) = 0 from rfl] at this
    rw [this]
    simp [h8]
  · rw [if_pos (by omega)]
    simp [h8]
theorem spec_l10Names_l0 (s : ByteArray) (hs : s.size < 1073741824) : ∀ (n k fr i : Nat) (out : List ByteArray), 2 * n + 70 ≤ k → i + n = s.size → fr ≤ i → out.length ≤ 8 →
    ∃ o, spec_l10Names.l0 k s out (fr : Int) (i : Int) = some (o, decide (out.length + (pcs (bs (s.extract fr i)) ((bs s).drop i)).length ≤ 8) && (pcs (bs (s.extract fr i)) ((bs s).drop i)).all nameOkL) := by
  intro n
  induction n with
  | zero =>
    intro k fr i out hk hi hf ho
    obtain ⟨k, rfl⟩ : ∃ k', k = k' + 3 := ⟨k - 3, by omega⟩
    have hw : wrap64 ((i : Int) + 1) = ((i + 1 : Nat) : Int) := by rw [wrap64_id (by omega) (by omega)]; omega
    have hd : (bs s).drop i = [] := List.drop_eq_nil_of_le (by rw [bs_length]; omega)
    rw [spec_l10Names.l0, if_pos (by omega), if_pos (by omega), spec_l10Names.j1, if_pos rfl, if_pos (by omega), if_pos (by omega), if_pos (by omega), spec_NameOk_eq _ _ (by omega), hd, pcs, Option.bind_some, hw]
    simp only [Int.toNat_natCast]
    rw [List.all_cons, nameOkL_bs]
    cases hn : nameOk (s.extract fr i) with
    | false => exact ⟨out, by simp⟩
    | true =>
      rw [if_pos rfl]
      by_cases h8 : out.length = 8
      · rw [if_pos (by omega)]
        exact ⟨out, by simp; omega⟩
      · rw [if_neg (by omega), if_pos (by omega)]
        rw [spec_l10Names.l0, if_neg (by omega)]
        exact ⟨out ++ [s.extract fr i], by simp; omega⟩
  | succ n ih =>
    intro k fr i out hk hi hf ho
    obtain ⟨k, rfl⟩ : ∃ k', k = k' + 2 := ⟨k - 2, by omega⟩
    have hw : wrap64 ((i : Int) + 1) = ((i + 1 : Nat) : Int) := by rw [wrap64_id (by omega) (by omega)]; omega
    have hl : i < (bs s).length := by rw [bs_length]; omega
    have hd : (bs s).drop i = (bs s)[i] :: (bs s).drop (i + 1) := List.drop_eq_getElem_cons hl
    have hb := bt_nat s i (by omega)
    rw [spec_l10Names.l0, if_pos (by omega), if_neg (by omega), if_pos (by omega), if_pos (by omega), spec_l10Names.j1, hd, pcs, hw, hb]
    by_cases hc : (bs s)[i] = 47
    · have hc2 : ((((bs s)[i].toNat : Int) == 47)) = true := by rw [hc]; rfl
      rw [hc2, if_pos rfl, if_pos hc, if_pos (by omega), if_pos (by omega), if_pos (by omega), spec_NameOk_eq _ _ (by omega), Option.bind_some]
      simp only [Int.toNat_natCast]
      rw [List.all_cons, nameOkL_bs]
      cases hn : nameOk (s.extract fr i) with
      | false => exact ⟨out, by simp⟩
      | true =>
        rw [if_pos rfl]
        have hp : 1 ≤ (pcs [] ((bs s).drop (i + 1))).length := by
          generalize (bs s).drop (i + 1) = l
          generalize ([] : List UInt8) = c
          induction l generalizing c with
          | nil => simp [pcs]
          | cons b l ih => rw [pcs]; split <;> simp_all
        by_cases h8 : out.length = 8
        · rw [if_pos (by omega)]
          exact ⟨out, by simp; omega⟩
        · rw [if_neg (by omega), if_pos (by omega)]
          obtain ⟨o, h⟩ := ih k (i + 1) (i + 1) (out ++ [s.extract fr i]) (by omega) (by omega) (by omega) (by simp; omega)
          have he : bs (s.extract (i + 1) (i + 1)) = [] := by rw [bs_extract]; simp
          rw [he] at h
          refine ⟨o, ?_⟩
          rw [h]
          simp only [List.length_append, List.length_cons, List.length_nil, Bool.true_and]
          congr 3
          apply decide_eq_decide.2
          omega
    · have hc2 : ((((bs s)[i].toNat : Int) == 47)) = false := by
        rw [beq_eq_false_iff_ne]
        intro h
        exact hc (UInt8.toNat_inj.mp (by show _ = 47; omega))
      rw [hc2, if_neg (by decide), if_neg hc]
      obtain ⟨o, h⟩ := ih k fr (i + 1) out (by omega) (by omega) (by omega) ho
      have he : bs (s.extract fr (i + 1)) = bs (s.extract fr i) ++ [(bs s)[i]] := by
        rw [bs_extract, bs_extract, show i + 1 - fr = (i - fr) + 1 by omega, List.take_add_one]
        congr 1
        rw [List.getElem?_drop, show fr + (i - fr) = i by omega, List.getElem?_eq_getElem hl]
        rfl
      rw [he] at h
      exact ⟨o, h⟩
theorem spec_l10Names_eq (s : ByteArray) (hs : s.size < 1073741824) (k : Nat) (hk : 2 * s.size + 70 ≤ k) : ∃ o, spec_l10Names.f k s = some (o, pathOk s) := by
  obtain ⟨o, h⟩ := spec_l10Names_l0 s hs s.size k 0 0 [] hk (by omega) (by omega) (by simp)
  have he : bs (s.extract 0 0) = [] := by rw [bs_extract]; simp
  rw [he] at h
  refine ⟨o, ?_⟩
  unfold spec_l10Names.f pathOk
  simpa using h
def upOf (s : ByteArray) : ByteArray × Bool := if Lib.lastIndexByte s 47 < 0 then (⟨#[]⟩, false) else (s.extract 0 (Lib.lastIndexByte s 47).toNat, true)
theorem impl_upper_eq (s : ByteArray) (hs : s.size < 1073741824) : impl_upper.f s = some (upOf s) := by
  unfold impl_upper.f strings_LastIndexByte.f upOf
  rw [if_pos (by omega), Option.bind_some]
  rcases Lib.lastIndexByte_spec s 47 with ⟨h, _⟩ | ⟨i, hi, h, _⟩
  · rw [h, if_pos (by omega), if_pos (by omega)]
  · rw [h, if_neg (by omega), if_pos (by omega), if_pos (by omega), if_neg (by omega)]
theorem spec_l10Up_l0 (s : ByteArray) (hs : s.size < 1073741824) : ∀ (n k : Nat), n + 1 ≤ k → n ≤ s.size →
    spec_l10Up.l0 k s ((n : Int) - 1) = some (if Lib.lastIdx s 47 n < 0 then ⟨#[]⟩ else s.extract 0 (Lib.lastIdx s 47 n).toNat) := by
  intro n
  induction n with
  | zero =>
    intro k hk hn
    obtain ⟨k, rfl⟩ : ∃ k', k = k' + 1 := ⟨k - 1, by omega⟩
    rw [spec_l10Up.l0, if_neg (by omega), Lib.lastIdx, if_pos (by omega)]
  | succ n ih =>
    intro k hk hn
    obtain ⟨k, rfl⟩ : ∃ k', k = k' + 1 := ⟨k - 1, by omega⟩
    have e1 : ((n + 1 : Nat) : Int) - 1 = (n : Int) := by omega
    have hw : wrap64 ((n : Int) - 1) = (n : Int) - 1 := wrap64_id (by omega) (by omega)
    have hb : bt s (n : Int) = ((s.data[n]!).toNat : Int) := by
      rw [bt_nat s n (by omega)]
      have h2 : n < s.data.size := by show n < s.size; omega
      rw [getElem!_pos s.data n h2]
      simp [bs]
    rw [e1, spec_l10Up.l0, if_pos (by omega), if_pos (by omega), if_pos (by omega), hw, hb]
    by_cases hc : ((s.data[n]!).toNat : Int) = 47
    · rw [Lib.lastIdx_hit s 47 n hc, if_pos hc, if_pos (by omega), if_neg (by omega)]
    · rw [Lib.lastIdx_miss s 47 n hc, if_neg hc, ih k (by omega) (by omega)]
theorem spec_l10Up_eq (s : ByteArray) (hs : s.size < 1073741824) (k : Nat) (hk : s.size + 1 ≤ k) : spec_l10Up.f k s = some (upOf s).1 := by
  unfold spec_l10Up.f upOf
  rw [wrap64_id (by omega) (by omega), spec_l10Up_l0 s hs s.size k hk (Nat.le_refl _)]
  show some (if Lib.lastIndexByte s 47 < 0 then _ else _) = _
  split <;> rfl
theorem upOf_ok (s : ByteArray) (hp : pathOk s = true) (hu : (upOf s).2 = true) : ∃ i : Nat, 0 < i ∧ i < s.size ∧ (upOf s).1 = s.extract 0 i := by
  unfold upOf at hu ⊢
  rcases Lib.lastIndexByte_spec s 47 with ⟨h, _⟩ | ⟨i, hi, h, hc, _⟩
  · rw [h, if_pos (by omega)] at hu
    cases hu
  · rw [h, if_neg (by omega)]
    refine ⟨i, ?_, hi, by simp⟩
    rcases Nat.eq_zero_or_pos i with h0 | h0
    · subst h0
      exfalso
      have hl : 0 < (bs s).length := by rw [bs_length]; omega
      have hd : bs s = (bs s)[0] :: (bs s).drop 1 := by
        have := List.drop_eq_getElem_cons hl
        simpa using this
      have h47 : (bs s)[0] = 47 := by
        have h2 : 0 < s.data.size := hi
        have h3 : s.data[0]! = (bs s)[0] := by rw [getElem!_pos s.data 0 h2]; simp [bs]
        rw [h3] at hc
        exact UInt8.toNat_inj.mp (by show _ = 47; omega)
      unfold pathOk at hp
      rw [hd, h47, pcs, if_pos rfl] at hp
      simp [nameOkL, nameOk] at hp
      exact absurd hp.2.1.1.1.1 (by decide)
    · exact h0
theorem upOf_no (s : ByteArray) (hu : (upOf s).2 = false) : (upOf s).1 = ⟨#[]⟩ := by
  unfold upOf at hu ⊢
  split
  · rfl
  · rename_i h
    rw [if_neg h] at hu
    cases hu
theorem less_begin : ∀ (l : List UInt8) (i : Nat), i < l.length → Op.bytesLess (l.take i) l = true
  | [], i, h => by simp at h
  | b :: l, 0, _ => by simp [Op.bytesLess]
  | b :: l, i + 1, h => by
    rw [List.take_succ_cons, Op.bytesLess, less_begin l i (by simpa using h)]
    simp
end Go.Proofs.YtjnmcgeahomkeaaDoor.P
end

section
set_option linter.unusedVariables false
set_option linter.unusedSimpArgs false
namespace Go.Proofs.YtjnmcgeahomkeaaDoor.P
open Go.RowKit Go.Proofs.YtjnmcgeahomkeaaDoorW.PrintWords Go.Proofs.YtjnmcgeahomkeaaDoorM
def less (a b : ByteArray) : Bool := Op.bytesLess (bs a) (bs b)
theorem bl_less (a b : ByteArray) : Op.bytesLess a.toList b.toList = less a b := by rw [toList_bs, toList_bs]; rfl
theorem bl_irrefl : ∀ x : List UInt8, Op.bytesLess x x = false
  | [] => by simp [Op.bytesLess]
  | a :: x => by
    rw [Op.bytesLess, bl_irrefl x]
    have : ¬ a < a := fun h => by have := UInt8.lt_iff_toNat_lt.mp h; omega
    simp [this]
theorem bl_trans : ∀ x y z : List UInt8, Op.bytesLess x y = true → Op.bytesLess y z = true → Op.bytesLess x z = true
  | _, [], _, h, _ => by simp [Op.bytesLess] at h
  | _, _ :: _, [], _, h => by simp [Op.bytesLess] at h
  | [], _ :: _, _ :: _, _, _ => by simp [Op.bytesLess]
  | a :: x, b :: y, c :: z, h1, h2 => by
    rw [Op.bytesLess, Bool.or_eq_true, Bool.and_eq_true, decide_eq_true_iff, beq_iff_eq] at h1 h2 ⊢
    rcases h1 with h1 | ⟨rfl, h1⟩
    · rcases h2 with h2 | ⟨rfl, h2⟩
      · exact .inl (UInt8.lt_iff_toNat_lt.mpr (by have := UInt8.lt_iff_toNat_lt.mp h1; have := UInt8.lt_iff_toNat_lt.mp h2; omega))
      · exact .inl h1
    · rcases h2 with h2 | ⟨rfl, h2⟩
      · exact .inl h2
      · exact .inr ⟨rfl, bl_trans x y z h1 h2⟩
theorem less_irrefl (a : ByteArray) : less a a = false := bl_irrefl _
theorem less_trans {a b c : ByteArray} (h1 : less a b = true) (h2 : less b c = true) : less a c = true := bl_trans _ _ _ h1 h2
theorem less_tri {a b : ByteArray} (h1 : less a b = false) (h2 : less b a = false) : a = b := by
  have := bytesLess_turn (bs a) (bs b)
  unfold less at h1 h2
  rw [h1, h2] at this
  simp at this
  exact bs_inj this
theorem less_ne {a b : ByteArray} (h : less a b = true) : a ≠ b := fun e => by subst e; rw [less_irrefl] at h; cases h
theorem less_asymm {a b : ByteArray} (h : less a b = true) : less b a = false := by
  cases h2 : less b a with
  | false => rfl
  | true => rw [← less_irrefl a]; exact (less_trans h h2).symm
def gd (t : List S29) (i : Nat) : S29 := t.getD i z29
theorem rd_gd (t : List S29) (i : Nat) : rd_T29 t (i : Int) = gd t i := by simp [rd_T29, gd]
theorem gd_get (t : List S29) (i : Nat) (h : i < t.length) : gd t i = t[i] := by simp [gd, List.getD_eq_getElem?_getD, List.getElem?_eq_getElem h]
theorem gd_mem (t : List S29) (i : Nat) (h : i < t.length) : gd t i ∈ t := by rw [gd_get t i h]; exact List.getElem_mem h
theorem mem_gd {t : List S29} {e : S29} (h : e ∈ t) : ∃ i, i < t.length ∧ gd t i = e := by
  obtain ⟨i, hi, he⟩ := List.getElem_of_mem h
  exact ⟨i, hi, by rw [gd_get t i hi, he]⟩
def entryOk (e : S29) : Bool := pathOk e.f0 && (decide (e.f2.size ≤ 20000) && (if e.f1 = 1 then decide (e.f2.size = 0) && !e.f3 else if e.f1 = 2 then true else if e.f1 = 3 then !decide (e.f2.size = 0) && !e.f3 else false))
def risen (t : List S29) (n : Nat) : Prop := ∀ j, 0 < j → j < n → less (gd t (j - 1)).f0 (gd t j).f0 = true
theorem risen_lt {t : List S29} {n : Nat} (h : risen t n) : ∀ d i, i + d + 1 < n → less (gd t i).f0 (gd t (i + d + 1)).f0 = true
  | 0, i, hi => by have := h (i + 1) (by omega) (by omega); simpa using this
  | d + 1, i, hi => less_trans (risen_lt h d i (by omega)) (by have h2 := h (i + d + 1 + 1) (by omega) (by omega); rw [Nat.add_sub_cancel] at h2; exact h2)
theorem risen_less {t : List S29} {n i j : Nat} (h : risen t n) (hij : i < j) (hj : j < n) : less (gd t i).f0 (gd t j).f0 = true := by
  have := risen_lt h (j - i - 1) i (by omega)
  rwa [show i + (j - i - 1) + 1 = j by omega] at this
theorem risen_inj {t : List S29} {n i j : Nat} (h : risen t n) (hi : i < n) (hj : j < n) (he : (gd t i).f0 = (gd t j).f0) : i = j := by
  rcases Nat.lt_trichotomy i j with hl | hl | hl
  · exact absurd he (less_ne (risen_less h hl hj))
  · exact hl
  · exact absurd he.symm (less_ne (risen_less h hl hi))
theorem spec_l10Find_l0 (t : List S29) (p : ByteArray) (ht : t.length < 1073741824) (hr : risen t t.length) : ∀ (n k lo hi : Nat), n + 2 ≤ k → hi - lo ≤ n → lo ≤ hi → hi ≤ t.length →
    (∀ i, i < lo → less (gd t i).f0 p = true) → (∀ i, hi ≤ i → i < t.length → less (gd t i).f0 p = false) →
    ∃ r, spec_l10Find.l0 k t p (lo : Int) (hi : Int) = some r ∧ ((∃ i : Nat, r = i ∧ i < t.length ∧ (gd t i).f0 = p) ∨ (r = -1 ∧ ∀ i, i < t.length → (gd t i).f0 ≠ p)) := by
  intro n
  induction n with
  | zero =>
    intro k lo hi hk hn hl hh h1 h2
    obtain ⟨k, rfl⟩ : ∃ k', k = k' + 1 := ⟨k - 1, by omega⟩
    obtain rfl : lo = hi := by omega
    rw [spec_l10Find.l0, if_neg (by omega), rd_gd]
    by_cases hlt : lo < t.length
    · rw [if_pos (by omega), if_pos (by omega)]
      by_cases he : (gd t lo).f0 = p
      · rw [if_pos (by rw [he])]
        exact ⟨_, rfl, .inl ⟨lo, rfl, hlt, he⟩⟩
      · rw [if_neg (fun h => he (bs_inj (by rw [← toList_bs, ← toList_bs]; exact h)))]
        refine ⟨_, rfl, .inr ⟨rfl, fun i hi e => ?_⟩⟩
        rcases Nat.lt_trichotomy i lo with hc | hc | hc
        · exact absurd e (less_ne (h1 i hc))
        · subst hc; exact he e
        · have h3 := risen_less hr hc hi
          rw [e] at h3
          rw [h2 lo (Nat.le_refl _) hlt] at h3
          cases h3
    · rw [if_neg (by omega)]
      exact ⟨_, rfl, .inr ⟨rfl, fun i hi e => absurd e (less_ne (h1 i (by omega)))⟩⟩
  | succ n ih =>
    intro k lo hi hk hn hl hh h1 h2
    by_cases hlo : lo = hi
    · exact ih k lo hi (by omega) (by omega) hl hh h1 h2
    obtain ⟨k, rfl⟩ : ∃ k', k = k' + 1 := ⟨k - 1, by omega⟩
    have hm : wrap64 (Int.tdiv (wrap64 ((lo : Int) + (hi : Int))) 2) = (((lo + hi) / 2 : Nat) : Int) := by
      rw [wrap64_id (n := (lo : Int) + (hi : Int)) (by omega) (by omega), Int.tdiv_eq_ediv_of_nonneg (by omega), wrap64_id (by omega) (by omega)]
      omega
    have hw : wrap64 ((((lo + hi) / 2 : Nat) : Int) + 1) = (((lo + hi) / 2 + 1 : Nat) : Int) := by rw [wrap64_id (by omega) (by omega)]; omega
    rw [spec_l10Find.l0, if_pos (by omega), hm, if_pos (by omega), if_pos (by omega), rd_gd, hw, bl_less]
    by_cases hc : less (gd t ((lo + hi) / 2)).f0 p = true
    · rw [if_pos hc]
      refine ih k _ hi (by omega) (by omega) (by omega) hh (fun i hi2 => ?_) h2
      rcases Nat.lt_or_ge i ((lo + hi) / 2) with h3 | h3
      · exact less_trans (risen_less hr h3 (by omega)) hc
      · obtain rfl : i = (lo + hi) / 2 := by omega
        exact hc
    · rw [if_neg hc]
      refine ih k lo _ (by omega) (by omega) (by omega) (by omega) h1 (fun i hi2 hi3 => ?_)
      have hc2 : less (gd t ((lo + hi) / 2)).f0 p = false := by simpa using hc
      rcases Nat.lt_or_ge ((lo + hi) / 2) i with h3 | h3
      · cases h4 : less (gd t i).f0 p with
        | false => rfl
        | true => rw [← hc2]; exact (less_trans (risen_less hr h3 hi3) h4).symm
      · obtain rfl : i = (lo + hi) / 2 := by omega
        exact hc2
theorem spec_l10Find_eq (t : List S29) (p : ByteArray) (ht : t.length < 1073741824) (hr : risen t t.length) (k : Nat) (hk : t.length + 2 ≤ k) :
    ∃ r, spec_l10Find.f k t p = some r ∧ ((∃ i : Nat, r = i ∧ i < t.length ∧ (gd t i).f0 = p) ∨ (r = -1 ∧ ∀ i, i < t.length → (gd t i).f0 ≠ p)) :=
  spec_l10Find_l0 t p ht hr t.length k 0 t.length hk (by omega) (by omega) (by omega) (fun i h => absurd h (Nat.not_lt_zero _)) (fun i h1 h2 => by omega)
def dirAt (t : List S29) (n : Nat) (p : ByteArray) : Prop := ∃ i, i < n ∧ (gd t i).f0 = p ∧ (gd t i).f1 = 1
theorem gd_take (t : List S29) (n i : Nat) (h : i < n) : gd (t.take n) i = gd t i := by
  unfold gd
  rw [List.getD_eq_getElem?_getD, List.getD_eq_getElem?_getD, List.getElem?_take_of_lt h]
theorem spec_l10Dir_eq (t : List S29) (n : Nat) (p : ByteArray) (hn : n ≤ t.length) (ht : t.length < 1073741824) (hr : risen t n) (k : Nat) (hk : t.length + 2 ≤ k) :
    ∃ b, spec_l10Dir.f k (t.take n) p = some b ∧ (b = true ↔ dirAt t n p) := by
  have hl : (t.take n).length = n := by rw [List.length_take]; omega
  have hr2 : risen (t.take n) (t.take n).length := fun j h1 h2 => by
    rw [hl] at h2
    rw [gd_take t n _ (by omega), gd_take t n _ h2]
    exact hr j h1 h2
  obtain ⟨r, hf, hc⟩ := spec_l10Find_eq (t.take n) p (by omega) hr2 k (by omega)
  unfold spec_l10Dir.f
  rw [hf, Option.bind_some]
  rcases hc with ⟨i, rfl, hi, he⟩ | ⟨rfl, hno⟩
  · rw [if_pos (by omega), if_pos (by omega), if_pos (by omega), rd_gd]
    rw [hl] at hi
    rw [gd_take t n i hi] at he ⊢
    refine ⟨_, rfl, ?_⟩
    rw [beq_iff_eq]
    constructor
    · exact fun h => ⟨i, hi, he, h⟩
    · rintro ⟨j, hj, he2, h1⟩
      obtain rfl := risen_inj hr hi hj (he.trans he2.symm)
      exact h1
  · rw [if_neg (by omega)]
    refine ⟨false, rfl, ⟨fun h => (by cases h), ?_⟩⟩
    rintro ⟨j, hj, he2, _⟩
    exact absurd (by rw [gd_take t n j hj]; exact he2) (hno j (by omega))
theorem toList_nil (s : ByteArray) : s.toList = ([] : List UInt8) ↔ s.size = 0 := by
  rw [toList_bs]
  exact bs_nil
theorem spec_l10EntryOk_eq (e : S29) (hs : e.f0.size < 1073741824) (k : Nat) (hk : 2 * e.f0.size + 71 ≤ k) : spec_l10EntryOk.f k e.f0 e.f1 e.f2 e.f3 = some (entryOk e) := by
  obtain ⟨o, h⟩ := spec_l10Names_eq e.f0 hs k (by omega)
  obtain ⟨k, rfl⟩ : ∃ k', k = k' + 1 := ⟨k - 1, by omega⟩
  unfold spec_l10EntryOk.f entryOk
  rw [h, Option.bind_some]
  show (if pathOk e.f0 = true then _ else _) = _
  cases pathOk e.f0 with
  | false => rw [if_neg (by decide), spec_l10EntryOk.j0]; rfl
  | true =>
    rw [if_pos rfl, spec_l10EntryOk.j0]
    simp only [toList_nil]
    by_cases h1 : e.f2.size > 20000
    · rw [if_pos (by simp; omega)]
      simp; omega
    · rw [if_neg (by simp; omega)]
      have h2 : e.f2.size ≤ 20000 := by omega
      by_cases h3 : e.f1 = 1
      · by_cases h4 : e.f2.size = 0 <;> simp [h2, h3, h4]
      · by_cases h5 : e.f1 = 2
        · simp [h2, h3, h5]
        · by_cases h6 : e.f1 = 3
          · by_cases h4 : e.f2.size = 0 <;> simp [h2, h3, h5, h6, h4]
          · simp [h2, h3, h5, h6]
def goodAt (t : List S29) (i : Nat) : Prop :=
  entryOk (gd t i) = true ∧ (0 < i → less (gd t (i - 1)).f0 (gd t i).f0 = true) ∧ ((upOf (gd t i).f0).2 = true → dirAt t i (upOf (gd t i).f0).1)
def treeOk (t : List S29) : Prop := t.length ≤ 500 ∧ ∀ i, i < t.length → goodAt t i
def smallT (t : List S29) : Prop := ∀ i, (gd t i).f0.size ≤ 1048576
theorem entryOk_path {e : S29} (h : entryOk e = true) : pathOk e.f0 = true := by
  unfold entryOk at h
  rw [Bool.and_eq_true] at h
  exact h.1
theorem spec_TreeOk_l0 (t : List S29) (hl : t.length ≤ 500) (hz : smallT t) : ∀ (n k i : Nat), 2 * n + 2100000 ≤ k → i + n = t.length → (∀ j, j < i → goodAt t j) →
    ∃ b, spec_TreeOk.l0 k t (i : Int) = some b ∧ (b = true ↔ ∀ j, i ≤ j → j < t.length → goodAt t j) := by
  intro n
  induction n with
  | zero =>
    intro k i hk hi hg
    obtain ⟨k, rfl⟩ : ∃ k', k = k' + 1 := ⟨k - 1, by omega⟩
    rw [spec_TreeOk.l0, if_neg (by omega)]
    exact ⟨true, rfl, ⟨fun _ j h1 h2 => by omega, fun _ => rfl⟩⟩
  | succ n ih =>
    intro k i hk hi hg
    obtain ⟨k, rfl⟩ : ∃ k', k = k' + 2 := ⟨k - 2, by omega⟩
    have hzi := hz i
    have hw : wrap64 ((i : Int) + 1) = ((i + 1 : Nat) : Int) := by rw [wrap64_id (by omega) (by omega)]; omega
    rw [spec_TreeOk.l0, if_pos (by omega), if_pos (by omega), rd_gd, spec_l10EntryOk_eq _ (by omega) _ (by omega), Option.bind_some]
    have hbad : ¬ goodAt t i → (false = true ↔ ∀ j, i ≤ j → j < t.length → goodAt t j) := fun hb => ⟨fun h => (by cases h), fun h => absurd (h i (Nat.le_refl _) (by omega)) hb⟩
    have hr : risen t i := fun j h1 h2 => (hg j h2).2.1 h1
    -- behind the order
    have hj : entryOk (gd t i) = true → ∀ o : Bool, (0 < i → o = !(less (gd t (i - 1)).f0 (gd t i).f0)) → (i = 0 → o = false) →
        ∃ b, spec_TreeOk.j1 (k + 1) t (i : Int) o = some b ∧ (b = true ↔ ∀ j, i ≤ j → j < t.length → goodAt t j) := by
      intro he o ho1 ho2
      rw [spec_TreeOk.j1]
      cases o with
      | true =>
        rw [if_pos rfl]
        refine ⟨false, rfl, hbad fun hb => ?_⟩
        rcases Nat.eq_zero_or_pos i with h0 | h0
        · cases ho2 h0
        · have h1 := ho1 h0
          rw [hb.2.1 h0] at h1
          cases h1
      | false =>
        rw [if_neg (by decide), if_pos (by omega), if_pos (by omega), rd_gd, spec_l10Up_eq _ (by omega) _ (by omega), Option.bind_some, hw]
        have hord : 0 < i → less (gd t (i - 1)).f0 (gd t i).f0 = true := fun h0 => by
          have h1 := ho1 h0
          cases h2 : less (gd t (i - 1)).f0 (gd t i).f0 with
          | true => rfl
          | false => rw [h2] at h1; cases h1
        have hgo : goodAt t i → ∃ b, spec_TreeOk.l0 k t ((i + 1 : Nat) : Int) = some b ∧ (b = true ↔ ∀ j, i ≤ j → j < t.length → goodAt t j) := fun hgi => by
          obtain ⟨b, hb1, hb2⟩ := ih k (i + 1) (by omega) (by omega) (fun j hj => by
            rcases Nat.lt_or_ge j i with h | h
            · exact hg j h
            · obtain rfl : j = i := by omega
              exact hgi)
          refine ⟨b, hb1, hb2.trans ⟨fun h j h1 h2 => ?_, fun h j h1 h2 => h j (by omega) h2⟩⟩
          rcases Nat.lt_or_ge i j with h3 | h3
          · exact h j h3 h2
          · obtain rfl : j = i := by omega
            exact hgi
        cases hu : (upOf (gd t i).f0).2 with
        | false =>
          rw [upOf_no _ hu, if_pos ((toList_nil _).2 rfl)]
          exact hgo ⟨he, hord, fun h => by rw [hu] at h; cases h⟩
        | true =>
          obtain ⟨q, hq0, hq1, hq⟩ := upOf_ok _ (entryOk_path he) hu
          have hqs : (upOf (gd t i).f0).1.size ≠ 0 := by
            rw [hq, ← bs_length, bs_upto, List.length_take, bs_length]
            omega
          obtain ⟨b, hb1, hb2⟩ := spec_l10Dir_eq t i (upOf (gd t i).f0).1 (by omega) (by omega) hr k (by omega)
          rw [if_neg (fun h => hqs ((toList_nil _).1 h)), if_pos (by omega)]
          simp only [Int.toNat_natCast]
          rw [hb1, Option.bind_some]
          cases b with
          | true =>
            rw [if_pos rfl]
            exact hgo ⟨he, hord, fun _ => hb2.1 rfl⟩
          | false =>
            rw [if_neg (by decide)]
            exact ⟨false, rfl, hbad fun hb => by cases hb2.2 (hb.2.2 hu)⟩
    cases he : entryOk (gd t i) with
    | false =>
      rw [if_neg (by decide), spec_TreeOk.j1, if_pos rfl]
      exact ⟨false, rfl, hbad fun hb => by rw [hb.1] at he; cases he⟩
    | true =>
      rw [if_pos rfl]
      by_cases h0 : 0 < i
      · have hw2 : wrap64 ((i : Int) - 1) = ((i - 1 : Nat) : Int) := by rw [wrap64_id (by omega) (by omega)]; omega
        rw [if_pos (by omega), hw2, if_pos (by omega), if_pos (by omega), rd_gd, bl_less]
        exact hj he _ (fun _ => rfl) (fun h => by omega)
      · rw [if_neg (by omega)]
        exact hj he false (fun h => absurd h h0) (fun _ => rfl)
theorem spec_TreeOk_eq (t : List S29) (hz : smallT t) (k : Nat) (hk : 2110000 ≤ k) : ∃ b, spec_TreeOk.f k t = some b ∧ (b = true ↔ treeOk t) := by
  unfold spec_TreeOk.f treeOk
  by_cases h : t.length > 500
  · rw [if_pos (by omega)]
    exact ⟨false, rfl, ⟨fun h => (by cases h), fun h2 => by omega⟩⟩
  · rw [if_neg (by omega)]
    obtain ⟨b, h1, h2⟩ := spec_TreeOk_l0 t (by omega) hz t.length k 0 (by omega) (by omega) (fun j h => absurd h (Nat.not_lt_zero _))
    exact ⟨b, h1, h2.trans ⟨fun h3 => ⟨by omega, fun i hi => h3 i (Nat.zero_le _) hi⟩, fun h3 j _ hj => h3.2 j hj⟩⟩
end Go.Proofs.YtjnmcgeahomkeaaDoor.P
end

section
set_option linter.unusedVariables false
set_option linter.unusedSimpArgs false
namespace Go.Proofs.YtjnmcgeahomkeaaDoor.P
open Go.RowKit Go.Proofs.YtjnmcgeahomkeaaDoorW.PrintWords Go.Proofs.YtjnmcgeahomkeaaDoorM
theorem mgetD_snoc (m : List (ByteArray × Int)) (a p : ByteArray) : mgetD 0 (m ++ [(a, 1)]) p = if a = p then 1 else mgetD 0 m p := by
  unfold mgetD
  by_cases h : a = p <;> simp [h]
def dm (t : List S29) : Nat → List (ByteArray × Int)
  | 0 => []
  | i + 1 => if (gd t i).f1 = 1 then dm t i ++ [((gd t i).f0, 1)] else dm t i
theorem dm_length (t : List S29) : ∀ n, (dm t n).length ≤ n
  | 0 => by simp [dm]
  | n + 1 => by
    have := dm_length t n
    rw [dm]
    split
    · simp; omega
    · omega
theorem dm_get (t : List S29) (p : ByteArray) : ∀ n, (mgetD 0 (dm t n) p = 0 ↔ ¬ dirAt t n p)
  | 0 => by
    simp only [dm, mgetD]
    refine ⟨fun _ h => ?_, fun _ => by simp⟩
    obtain ⟨i, hi, _⟩ := h
    omega
  | n + 1 => by
    have ih := dm_get t p n
    have hs : dirAt t (n + 1) p ↔ dirAt t n p ∨ ((gd t n).f0 = p ∧ (gd t n).f1 = 1) := by
      constructor
      · rintro ⟨i, hi, h⟩
        rcases Nat.lt_or_ge i n with h1 | h1
        · exact .inl ⟨i, h1, h⟩
        · obtain rfl : i = n := by omega
          exact .inr h
      · rintro (⟨i, hi, h⟩ | h)
        · exact ⟨i, by omega, h⟩
        · exact ⟨n, by omega, h⟩
    rw [dm, hs]
    by_cases h1 : (gd t n).f1 = 1
    · rw [if_pos h1, mgetD_snoc]
      by_cases h2 : (gd t n).f0 = p
      · simp [h1, h2]
      · simp [h1, h2, ih]
    · rw [if_neg h1, ih]
      simp [h1]
theorem impl_TreeOk_l1 (t : List S29) (hl : t.length ≤ 500) (hz : smallT t) : ∀ (n k i : Nat), n + 1 ≤ k → i + n = t.length →
    ∃ b, impl_TreeOk.l1 k (dm t t.length) t (t.length : Int) (i : Int) = some b ∧ (b = true ↔ ∀ j, i ≤ j → j < t.length → (upOf (gd t j).f0).2 = true → dirAt t t.length (upOf (gd t j).f0).1) := by
  intro n
  induction n with
  | zero =>
    intro k i hk hi
    obtain ⟨k, rfl⟩ : ∃ k', k = k' + 1 := ⟨k - 1, by omega⟩
    rw [impl_TreeOk.l1, if_neg (by omega)]
    exact ⟨true, rfl, ⟨fun _ j h1 h2 => by omega, fun _ => rfl⟩⟩
  | succ n ih =>
    intro k i hk hi
    obtain ⟨k, rfl⟩ : ∃ k', k = k' + 1 := ⟨k - 1, by omega⟩
    have hzi := hz i
    have hw : wrap64 ((i : Int) + 1) = ((i + 1 : Nat) : Int) := by rw [wrap64_id (by omega) (by omega)]; omega
    rw [impl_TreeOk.l1, if_pos (by omega), if_pos (by omega), if_pos (by omega), rd_gd, impl_upper_eq _ (by omega), Option.bind_some, hw]
    obtain ⟨b, hb1, hb2⟩ := ih k (i + 1) (by omega) (by omega)
    have hgo : ((upOf (gd t i).f0).2 = true → dirAt t t.length (upOf (gd t i).f0).1) → ∃ b, impl_TreeOk.l1 k (dm t t.length) t (t.length : Int) ((i + 1 : Nat) : Int) = some b ∧ (b = true ↔ ∀ j, i ≤ j → j < t.length → (upOf (gd t j).f0).2 = true → dirAt t t.length (upOf (gd t j).f0).1) := fun hg => by
      refine ⟨b, hb1, hb2.trans ⟨fun h j h1 h2 => ?_, fun h j h1 h2 => h j (by omega) h2⟩⟩
      rcases Nat.lt_or_ge i j with h3 | h3
      · exact h j h3 h2
      · obtain rfl : j = i := by omega
        exact hg
    cases hu : (upOf (gd t i).f0).2 with
    | false => rw [if_neg (by decide)]; exact hgo (fun h => by rw [hu] at h; cases h)
    | true =>
      have hus : (upOf (gd t i).f0).1.size ≤ 1048576 := by
        unfold upOf
        split
        · decide
        · show ((gd t i).f0.extract 0 _).size ≤ _
          rw [← bs_length, bs_upto, List.length_take, bs_length]
          omega
      rw [if_pos rfl, if_pos (by omega)]
      by_cases hd : mgetD 0 (dm t t.length) (upOf (gd t i).f0).1 = 0
      · rw [if_pos hd]
        exact ⟨false, rfl, ⟨fun h => (by cases h), fun h => absurd (h i (Nat.le_refl _) (by omega) hu) ((dm_get t _ _).1 hd)⟩⟩
      · rw [if_neg hd]
        refine hgo (fun _ => ?_)
        by_cases hx : dirAt t t.length (upOf (gd t i).f0).1
        · exact hx
        · exact absurd ((dm_get t _ _).2 hx) hd
def firstAt (t : List S29) (i : Nat) : Prop := entryOk (gd t i) = true ∧ (0 < i → less (gd t (i - 1)).f0 (gd t i).f0 = true)
def upsIn (t : List S29) : Prop := ∀ j, j < t.length → (upOf (gd t j).f0).2 = true → dirAt t t.length (upOf (gd t j).f0).1
theorem impl_TreeOk_l0 (t : List S29) (hl : t.length ≤ 500) (hz : smallT t) : ∀ (n k i : Nat), 2 * n + 700 ≤ k → i + n = t.length →
    ∃ b, impl_TreeOk.l0 k t (dm t i) t (t.length : Int) (i : Int) = some b ∧ (b = true ↔ (∀ j, i ≤ j → j < t.length → firstAt t j) ∧ upsIn t) := by
  intro n
  induction n with
  | zero =>
    intro k i hk hi
    obtain ⟨k, rfl⟩ : ∃ k', k = k' + 1 := ⟨k - 1, by omega⟩
    obtain rfl : i = t.length := by omega
    rw [impl_TreeOk.l0, if_neg (by omega)]
    obtain ⟨b, h1, h2⟩ := impl_TreeOk_l1 t hl hz t.length k 0 (by omega) (by omega)
    exact ⟨b, h1, h2.trans ⟨fun h => ⟨fun j h3 h4 => by omega, fun j hj => h j (Nat.zero_le _) hj⟩, fun h j _ hj => h.2 j hj⟩⟩
  | succ n ih =>
    intro k i hk hi
    obtain ⟨k, rfl⟩ : ∃ k', k = k' + 2 := ⟨k - 2, by omega⟩
    have hzi := hz i
    have hw : wrap64 ((i : Int) + 1) = ((i + 1 : Nat) : Int) := by rw [wrap64_id (by omega) (by omega)]; omega
    have hdl := dm_length t i
    rw [impl_TreeOk.l0, if_pos (by omega), if_pos (by omega), if_pos (by omega), rd_gd, impl_pathOk_eq _ (by omega) _ (by omega), Option.bind_some]
    have hbad : ¬ firstAt t i → (false = true ↔ (∀ j, i ≤ j → j < t.length → firstAt t j) ∧ upsIn t) := fun hb => ⟨fun h => (by cases h), fun h => absurd (h.1 i (Nat.le_refl _) (by omega)) hb⟩
    -- behind the tests
    have hj : ∀ o : Bool, (o = true → ¬ firstAt t i) → (o = false → pathOk (gd t i).f0 = true ∧ ((gd t i).f3 = true → (gd t i).f1 = 2) ∧ (0 < i → less (gd t (i - 1)).f0 (gd t i).f0 = true)) →
        ∃ b, impl_TreeOk.j1 (k + 1) t (dm t i) t (t.length : Int) (i : Int) o (gd t i).f0 (gd t i).f1 (gd t i).f2 (gd t i).f3 = some b ∧ (b = true ↔ (∀ j, i ≤ j → j < t.length → firstAt t j) ∧ upsIn t) := by
      intro o ho1 ho2
      rw [impl_TreeOk.j1, hw]
      cases o with
      | true => rw [if_pos rfl]; exact ⟨false, rfl, hbad (ho1 rfl)⟩
      | false =>
        obtain ⟨hp, hx, hor⟩ := ho2 rfl
        obtain ⟨b, hb1, hb2⟩ := ih k (i + 1) (by omega) (by omega)
        have hgo : entryOk (gd t i) = true → (b = true ↔ (∀ j, i ≤ j → j < t.length → firstAt t j) ∧ upsIn t) := fun he => by
          refine hb2.trans ⟨fun h => ⟨fun j h1 h2 => ?_, h.2⟩, fun h => ⟨fun j h1 h2 => h.1 j (by omega) h2, h.2⟩⟩
          rcases Nat.lt_or_ge i j with h3 | h3
          · exact h.1 j h3 h2
          · obtain rfl : j = i := by omega
            exact ⟨he, hor⟩
        rw [if_neg (by decide)]
        simp only [toList_nil]
        have hno : entryOk (gd t i) = false → ∃ b', (some false : Option Bool) = some b' ∧ (b' = true ↔ (∀ j, i ≤ j → j < t.length → firstAt t j) ∧ upsIn t) := fun he => ⟨false, rfl, hbad fun hb => by rw [hb.1] at he; cases he⟩
        by_cases h1 : (gd t i).f1 = 1
        · rw [if_pos h1]
          have hx2 : (gd t i).f3 = false := by
            cases h : (gd t i).f3 with
            | false => rfl
            | true => have := hx h; omega
          by_cases h4 : (gd t i).f2.size = 0
          · rw [if_pos h4, if_pos (by omega), if_pos (by omega)]
            rw [dm, if_pos h1] at hb1
            exact ⟨b, hb1, hgo (by simp [entryOk, hp, h1, h4, hx2])⟩
          · rw [if_neg h4]
            exact hno (by simp [entryOk, hp, h1, h4])
        · rw [if_neg h1]
          rw [dm, if_neg h1] at hb1
          by_cases h2 : (gd t i).f1 = 2
          · rw [if_pos h2]
            by_cases h4 : (gd t i).f2.size > 20000
            · rw [if_pos (by omega)]
              exact hno (by simp [entryOk, hp, show ¬ (gd t i).f2.size ≤ 20000 by omega])
            · rw [if_neg (by omega)]
              exact ⟨b, hb1, hgo (by simp [entryOk, hp, h2, show (gd t i).f2.size ≤ 20000 by omega])⟩
          · rw [if_neg h2]
            have hx2 : (gd t i).f3 = false := by
              cases h : (gd t i).f3 with
              | false => rfl
              | true => exact absurd (hx h) h2
            by_cases h3 : (gd t i).f1 = 3
            · rw [if_pos h3]
              by_cases h4 : (gd t i).f2.size < 1
              · rw [if_pos (by omega)]
                exact hno (by simp [entryOk, hp, h3, show (gd t i).f2.size = 0 by omega])
              · rw [if_neg (by omega)]
                by_cases h5 : (gd t i).f2.size > 20000
                · rw [if_pos (by omega)]
                  exact hno (by simp [entryOk, hp, show ¬ (gd t i).f2.size ≤ 20000 by omega])
                · rw [if_neg (by omega)]
                  exact ⟨b, hb1, hgo (by simp [entryOk, hp, h3, hx2, show (gd t i).f2.size ≤ 20000 by omega, show ¬ (gd t i).f2.size = 0 by omega])⟩
            · rw [if_neg h3]
              exact hno (by simp [entryOk, h1, h2, h3])
    have hex : (gd t i).f3 = true → (gd t i).f1 ≠ 2 → entryOk (gd t i) = false := fun h3 h2 => by simp [entryOk, h3, h2]
    have htail : pathOk (gd t i).f0 = true → (0 < i → less (gd t (i - 1)).f0 (gd t i).f0 = true) →
        ∃ b, (if (gd t i).f3 = true then impl_TreeOk.j1 (k + 1) t (dm t i) t (t.length : Int) (i : Int) ((gd t i).f1 != 2) (gd t i).f0 (gd t i).f1 (gd t i).f2 (gd t i).f3 else impl_TreeOk.j1 (k + 1) t (dm t i) t (t.length : Int) (i : Int) false (gd t i).f0 (gd t i).f1 (gd t i).f2 (gd t i).f3) = some b ∧ (b = true ↔ (∀ j, i ≤ j → j < t.length → firstAt t j) ∧ upsIn t) := fun hp hor => by
      by_cases h3 : (gd t i).f3 = true
      · rw [if_pos h3]
        refine hj _ (fun h hb => ?_) (fun h => ⟨hp, fun _ => by simpa using h, hor⟩)
        have := hex h3 (by simpa using h)
        rw [hb.1] at this
        cases this
      · rw [if_neg h3]
        exact hj _ (fun h => by cases h) (fun _ => ⟨hp, fun h => absurd h h3, hor⟩)
    cases hp : pathOk (gd t i).f0 with
    | false =>
      rw [if_neg (by decide)]
      exact hj _ (fun _ hb => by have := entryOk_path hb.1; rw [hp] at this; cases this) (fun h => by cases h)
    | true =>
      rw [if_pos rfl]
      by_cases h0 : 0 < i
      · have hw2 : wrap64 ((i : Int) - 1) = ((i - 1 : Nat) : Int) := by rw [wrap64_id (by omega) (by omega)]; omega
        rw [if_pos (by omega), hw2, if_pos (by omega), if_pos (by omega), rd_gd, bl_less]
        cases ho : less (gd t (i - 1)).f0 (gd t i).f0 with
        | true => rw [if_pos rfl]; exact htail hp (fun _ => ho)
        | false =>
          rw [if_neg (by decide)]
          exact hj _ (fun _ hb => by have := hb.2 h0; rw [ho] at this; cases this) (fun h => by cases h)
      · rw [if_neg (by omega)]
        exact htail hp (fun h => absurd h h0)
theorem treeOk_iff (t : List S29) : (t.length ≤ 500 ∧ (∀ j, j < t.length → firstAt t j) ∧ upsIn t) ↔ treeOk t := by
  constructor
  · rintro ⟨h0, h1, h2⟩
    have hr : risen t t.length := fun j hj1 hj2 => (h1 j hj2).2 hj1
    refine ⟨h0, fun i hi => ⟨(h1 i hi).1, (h1 i hi).2, fun hu => ?_⟩⟩
    obtain ⟨j, hj, he, hk⟩ := h2 i hi hu
    refine ⟨j, ?_, he, hk⟩
    obtain ⟨q, hq0, hq1, hq⟩ := upOf_ok _ (entryOk_path (h1 i hi).1) hu
    have hlt : less (upOf (gd t i).f0).1 (gd t i).f0 = true := by
      unfold less
      rw [hq, bs_upto]
      exact less_begin _ _ (by rw [bs_length]; exact hq1)
    rcases Nat.lt_trichotomy j i with h | h | h
    · exact h
    · subst h
      rw [← he, less_irrefl] at hlt
      cases hlt
    · have h3 := risen_less hr h hj
      rw [he] at h3
      rw [less_asymm h3] at hlt
      cases hlt
  · rintro ⟨h0, h1⟩
    refine ⟨h0, fun j hj => ⟨(h1 j hj).1, (h1 j hj).2.1⟩, fun j hj hu => ?_⟩
    obtain ⟨q, hq, h⟩ := (h1 j hj).2.2 hu
    exact ⟨q, by omega, h⟩
theorem impl_TreeOk_eq (t : List S29) (hz : smallT t) (k : Nat) (hk : 2000 ≤ k) : ∃ b, impl_TreeOk.f k t = some b ∧ (b = true ↔ treeOk t) := by
  unfold impl_TreeOk.f
  by_cases h : t.length > 500
  · rw [if_pos (by omega)]
    exact ⟨false, rfl, ⟨fun h => (by cases h), fun h2 => by have := h2.1; omega⟩⟩
  · rw [if_neg (by omega)]
    obtain ⟨b, h1, h2⟩ := impl_TreeOk_l0 t (by omega) hz t.length k 0 (by omega) (by omega)
    refine ⟨b, h1, h2.trans (Iff.trans ?_ (treeOk_iff t))⟩
    exact ⟨fun h3 => ⟨by omega, fun j hj => h3.1 j (Nat.zero_le _) hj, h3.2⟩, fun h3 => ⟨fun j _ hj => h3.2.1 j hj, h3.2.2⟩⟩
end Go.Proofs.YtjnmcgeahomkeaaDoor.P
end

section
set_option linter.unusedVariables false
set_option linter.unusedSimpArgs false
namespace Go.Proofs.YtjnmcgeahomkeaaDoor.P
open Go.RowKit Go.Proofs.YtjnmcgeahomkeaaDoorW.PrintWords Go.Proofs.YtjnmcgeahomkeaaDoorW.PrintLast Go.Proofs.YtjnmcgeahomkeaaDoorM
theorem bits_i64_nat (op : BinOp) (x y : Nat) (hx : x < 9223372036854775808) (hy : y < 9223372036854775808) :
    Go.bits .and .i64 (x : Int) (y : Int) = ((x &&& y : Nat) : Int) ∧ Go.bits .or .i64 (x : Int) (y : Int) = ((x ||| y : Nat) : Int) := by
  have hbx : (BitVec.ofInt 64 (x : Int)).toNat = x := by rw [BitVec.toNat_ofInt]; omega
  have hby : (BitVec.ofInt 64 (y : Int)).toNat = y := by rw [BitVec.toNat_ofInt]; omega
  have hand : x &&& y < 9223372036854775808 := Nat.lt_of_le_of_lt Nat.and_le_left hx
  have hor : x ||| y < 9223372036854775808 := Nat.or_lt_two_pow (n := 63) hx hy
  constructor
  · unfold Go.bits
    show IntKind.i64.wrap (((BitVec.ofInt 64 (x : Int)) &&& (BitVec.ofInt 64 (y : Int))).toNat : Int) = _
    rw [BitVec.toNat_and, hbx, hby, i64_w, wrap64_id (by omega) (by omega)]
  · unfold Go.bits
    show IntKind.i64.wrap (((BitVec.ofInt 64 (x : Int)) ||| (BitVec.ofInt 64 (y : Int))).toNat : Int) = _
    rw [BitVec.toNat_or, hbx, hby, i64_w, wrap64_id (by omega) (by omega)]
theorem varint_byte (v : Nat) (hv : v < 9223372036854775808) : Go.bits .or .i64 (Go.bits .and .i64 (v : Int) 127) 128 = ((v % 128 + 128 : Nat) : Int) := by
  have h1 := (bits_i64_nat .and v 127 hv (by omega)).1
  rw [show ((127 : Nat) : Int) = 127 from rfl] at h1
  have e1 : v &&& 127 = v % 128 := Nat.and_two_pow_sub_one_eq_mod v 7
  rw [h1, e1]
  have h2 := (bits_i64_nat .or (v % 128) 128 (by omega) (by omega)).2
  rw [show ((128 : Nat) : Int) = 128 from rfl] at h2
  have e2 : v % 128 ||| 128 = v % 128 + 128 := Nat.or_two_pow_eq_add_of_lt (n := 7) (by omega)
  rw [h2, e2]
def vi : Nat → Nat → List Int
  | 0, _ => []
  | k + 1, v => if 128 ≤ v then ((v % 128 + 128 : Nat) : Int) :: vi k (v / 128) else [(v : Int)]
theorem vi_length : ∀ k v, (vi k v).length ≤ k
  | 0, _ => by simp [vi]
  | k + 1, v => by
    rw [vi]
    split
    · simpa using vi_length k (v / 128)
    · simp
theorem impl_varint_eq : ∀ (n k v : Nat) (l : List Int), n ≤ k → v < 128 ^ n → 0 < n → n ≤ 9 → l.length + n < 140737488355328 → impl_varint.f k l (v : Int) = some (l ++ vi n v) := by
  intro n
  induction n with
  | zero => intro k v l _ _ h; omega
  | succ n ih =>
    intro k v l hk hv _ hn9 hl
    obtain ⟨k, rfl⟩ : ∃ k', k = k' + 1 := ⟨k - 1, by omega⟩
    have hv63 : v < 9223372036854775808 := Nat.lt_of_lt_of_le hv (Nat.le_trans (Nat.pow_le_pow_right (by decide) hn9) (by decide))
    unfold impl_varint.f
    rw [impl_varint.l0, vi]
    by_cases h : 128 ≤ v
    · rw [if_pos (by omega), if_pos (by omega), if_pos h, varint_byte v hv63]
      have e : ((v % 128 + 128 : Nat) : Int) % 256 = ((v % 128 + 128 : Nat) : Int) := by omega
      have e2 : (v : Int) / 128 = ((v / 128 : Nat) : Int) := by omega
      have hn : 0 < n := by
        rcases Nat.eq_zero_or_pos n with h0 | h0
        · subst h0; simp at hv; omega
        · exact h0
      have := ih k (v / 128) (l ++ [((v % 128 + 128 : Nat) : Int)]) (by omega) (by rw [Nat.pow_succ] at hv; omega) hn (by omega) (by simp; omega)
      unfold impl_varint.f at this
      rw [e, e2, this]
      simp
    · rw [if_neg (by omega), if_pos (by omega), if_neg h]
      have e : (v : Int) % 256 = (v : Int) := by omega
      rw [e]
theorem spec_l10Num_eq : ∀ (n k v : Nat) (l : List Int), n ≤ k → v < 128 ^ n → 0 < n → n ≤ 9 → l.length + n < 140737488355328 → spec_l10Num.f k l (v : Int) = some (l ++ vi n v) := by
  intro n
  induction n with
  | zero => intro k v l _ _ h; omega
  | succ n ih =>
    intro k v l hk hv _ hn9 hl
    obtain ⟨k, rfl⟩ : ∃ k', k = k' + 1 := ⟨k - 1, by omega⟩
    have hv63 : v < 9223372036854775808 := Nat.lt_of_lt_of_le hv (Nat.le_trans (Nat.pow_le_pow_right (by decide) hn9) (by decide))
    unfold spec_l10Num.f
    rw [spec_l10Num.l0, vi]
    by_cases h : 128 ≤ v
    · have e : (wrap64 (Int.tmod (v : Int) 128 + 128)) % 256 = ((v % 128 + 128 : Nat) : Int) := by
        rw [Int.tmod_eq_emod_of_nonneg (by omega), wrap64_id (by omega) (by omega)]
        omega
      have e2 : wrap64 (Int.tdiv (v : Int) 128) = ((v / 128 : Nat) : Int) := by
        rw [Int.tdiv_eq_ediv_of_nonneg (by omega), wrap64_id (by omega) (by omega)]
        omega
      rw [if_pos (by omega), if_pos (by omega), if_pos h, e, e2]
      have hn : 0 < n := by
        rcases Nat.eq_zero_or_pos n with h0 | h0
        · subst h0; simp at hv; omega
        · exact h0
      have := ih k (v / 128) (l ++ [((v % 128 + 128 : Nat) : Int)]) (by omega) (by rw [Nat.pow_succ] at hv; omega) hn (by omega) (by simp; omega)
      unfold spec_l10Num.f at this
      rw [this]
      simp
    · rw [if_neg (by omega), if_pos (by omega), if_neg h]
      have e : (v : Int) % 256 = (v : Int) := by omega
      rw [e]
def tx (s : ByteArray) : List Int := vi 4 s.size ++ bytesOf s
theorem tx_length (s : ByteArray) : (tx s).length ≤ 4 + s.size := by
  have := vi_length 4 s.size
  rw [tx, List.length_append, bytesOf_length]
  omega
theorem spec_l10Text_eq (k : Nat) (l : List Int) (s : ByteArray) (hk : 4 ≤ k) (hs : s.size ≤ 1048576) (hl : l.length ≤ 70368744177664) : spec_l10Text.f k l s = some (l ++ tx s) := by
  unfold spec_l10Text.f
  have hv := vi_length 4 s.size
  have hb := bytesOf_length s
  rw [spec_l10Num_eq 4 k s.size l hk (by omega) (by omega) (by omega) (by omega), Option.bind_some, if_pos (by omega), Option.bind_some, if_pos (by rw [List.length_append]; omega), tx]
  simp
def kb (e : S29) : Int := if e.f3 = true then ((e.f1 % 256) + 16) % 256 else e.f1 % 256
def pk (t : List S29) : Nat → Nat → List Int
  | 0, _ => []
  | n + 1, i => (kb (gd t i) :: (tx (gd t i).f0 ++ tx (gd t i).f2)) ++ pk t n (i + 1)
theorem impl_PackTree_l0 (t : List S29) (hl : t.length ≤ 500) (hz : ∀ i, (gd t i).f0.size ≤ 1048576 ∧ (gd t i).f2.size ≤ 1048576) : ∀ (n k i : Nat) (acc : List Int), n + 5 ≤ k → i + n = t.length → acc.length ≤ 4194304 * (i + 1) →
    impl_PackTree.l0 k acc t (t.length : Int) (i : Int) = some (acc ++ pk t n i) := by
  intro n
  induction n with
  | zero =>
    intro k i acc hk hi ha
    obtain ⟨k, rfl⟩ : ∃ k', k = k' + 1 := ⟨k - 1, by omega⟩
    rw [impl_PackTree.l0, if_neg (by omega), pk, List.append_nil]
  | succ n ih =>
    intro k i acc hk hi ha
    obtain ⟨k, rfl⟩ : ∃ k', k = k' + 1 := ⟨k - 1, by omega⟩
    have hzi := hz i
    have hw : wrap64 ((i : Int) + 1) = ((i + 1 : Nat) : Int) := by rw [wrap64_id (by omega) (by omega)]; omega
    have hv0 := vi_length 4 (gd t i).f0.size
    have hv2 := vi_length 4 (gd t i).f2.size
    have hb0 := bytesOf_length (gd t i).f0
    have hb2 := bytesOf_length (gd t i).f2
    rw [impl_PackTree.l0, if_pos (by omega), if_pos (by omega), if_pos (by omega), rd_gd, hw]
    have go : ∀ b : Int, b = kb (gd t i) → (if acc.length < 140737488355328 then ((impl_varint.f k (acc ++ [b]) ((gd t i).f0.size : Int)).bind fun u1 => (if u1.length + ((gd t i).f0).size < 140737488355328 then ((impl_varint.f k (u1 ++ bytesOf ((gd t i).f0)) (((gd t i).f2).size : Int)).bind fun u2 => (if u2.length + ((gd t i).f2).size < 140737488355328 then (impl_PackTree.l0 k (u2 ++ bytesOf ((gd t i).f2)) t (t.length : Int) ((i + 1 : Nat) : Int)) else (none))) else (none))) else none) = some (acc ++ pk t (n + 1) i) := by
      intro b hb
      rw [if_pos (by omega), impl_varint_eq 4 k _ _ (by omega) (by omega) (by omega) (by omega) (by simp; omega), Option.bind_some, if_pos (by simp; omega),
        impl_varint_eq 4 k _ _ (by omega) (by omega) (by omega) (by omega) (by simp; omega), Option.bind_some, if_pos (by simp; omega), ih k (i + 1) _ (by omega) (by omega) (by simp; omega), pk, hb, tx, tx]
      simp
    by_cases h3 : (gd t i).f3 = true
    · rw [if_pos h3]
      exact go _ (by rw [kb, if_pos h3])
    · rw [if_neg h3]
      exact go _ (by rw [kb, if_neg h3])
theorem spec_PackTree_l0 (t : List S29) (hl : t.length ≤ 500) (hz : ∀ i, (gd t i).f0.size ≤ 1048576 ∧ (gd t i).f2.size ≤ 1048576) : ∀ (n k i : Nat) (acc : List Int), n + 5 ≤ k → i + n = t.length → acc.length ≤ 4194304 * (i + 1) →
    spec_PackTree.l0 k t acc (i : Int) = some (acc ++ pk t n i) := by
  intro n
  induction n with
  | zero =>
    intro k i acc hk hi ha
    obtain ⟨k, rfl⟩ : ∃ k', k = k' + 1 := ⟨k - 1, by omega⟩
    rw [spec_PackTree.l0, if_neg (by omega), pk, List.append_nil]
  | succ n ih =>
    intro k i acc hk hi ha
    obtain ⟨k, rfl⟩ : ∃ k', k = k' + 1 := ⟨k - 1, by omega⟩
    have hzi := hz i
    have hw : wrap64 ((i : Int) + 1) = ((i + 1 : Nat) : Int) := by rw [wrap64_id (by omega) (by omega)]; omega
    have ht0 := tx_length (gd t i).f0
    have ht2 := tx_length (gd t i).f2
    rw [spec_PackTree.l0, if_pos (by omega), if_pos (by omega), rd_gd, hw]
    have go : ∀ b : Int, b = kb (gd t i) → (if acc.length < 140737488355328 then ((spec_l10Text.f k (acc ++ [b]) ((gd t i).f0)).bind fun u1 => ((spec_l10Text.f k u1 ((gd t i).f2)).bind fun u2 => (spec_PackTree.l0 k t u2 ((i + 1 : Nat) : Int)))) else none) = some (acc ++ pk t (n + 1) i) := by
      intro b hb
      rw [if_pos (by omega), spec_l10Text_eq k _ _ (by omega) hzi.1 (by simp; omega), Option.bind_some, spec_l10Text_eq k _ _ (by omega) hzi.2 (by simp; omega), Option.bind_some, ih k (i + 1) _ (by omega) (by omega) (by simp; omega), pk, hb]
      simp
    by_cases h3 : (gd t i).f3 = true
    · rw [if_pos h3]
      refine go _ ?_
      rw [kb, if_pos h3]
      unfold wrap64
      omega
    · rw [if_neg h3]
      exact go _ (by rw [kb, if_neg h3])
def packed (t : List S29) : List Int := ([76, 65, 82, 49] ++ vi 4 t.length) ++ pk t t.length 0
theorem pack_both (t : List S29) (hz : ∀ i, (gd t i).f0.size ≤ 1048576 ∧ (gd t i).f2.size ≤ 1048576) (k : Nat) (hk : 2110000 ≤ k) :
    (treeOk t ∧ impl_PackTree.f k t = some (packed t) ∧ spec_PackTree.f k t = some (packed t)) ∨ (¬ treeOk t ∧ impl_PackTree.f k t = some [] ∧ spec_PackTree.f k t = some []) := by
  obtain ⟨b1, hi1, hi2⟩ := impl_TreeOk_eq t (fun i => (hz i).1) k (by omega)
  obtain ⟨b2, hs1, hs2⟩ := spec_TreeOk_eq t (fun i => (hz i).1) k (by omega)
  unfold impl_PackTree.f spec_PackTree.f
  rw [hi1, hs1, Option.bind_some, Option.bind_some]
  by_cases hok : treeOk t
  · left
    rw [if_pos (hi2.2 hok), if_pos (hs2.2 hok)]
    have hl := hok.1
    have hv := vi_length 4 t.length
    have h1 := impl_PackTree_l0 t hl hz t.length k 0 ([76, 65, 82, 49] ++ vi 4 t.length) (by omega) (by omega) (by simp; omega)
    have h2 := spec_PackTree_l0 t hl hz t.length k 0 ([76, 65, 82, 49] ++ vi 4 t.length) (by omega) (by omega) (by simp; omega)
    rw [show ((0 : Nat) : Int) = 0 from rfl] at h1 h2
    rw [impl_varint_eq 4 k _ _ (by omega) (by omega) (by omega) (by omega) (by simp), spec_l10Num_eq 4 k _ _ (by omega) (by omega) (by omega) (by omega) (by simp), Option.bind_some, Option.bind_some, h1, h2]
    exact ⟨hok, rfl, rfl⟩
  · right
    rw [if_neg (fun h => hok (hi2.1 h)), if_neg (fun h => hok (hs2.1 h))]
    exact ⟨hok, rfl, rfl⟩
end Go.Proofs.YtjnmcgeahomkeaaDoor.P
end

section
set_option linter.unusedVariables false
set_option linter.unusedSimpArgs false
namespace Go.Proofs.YtjnmcgeahomkeaaDoor.P
open Go.RowKit Go.Proofs.YtjnmcgeahomkeaaDoorW.PrintWords Go.Proofs.YtjnmcgeahomkeaaDoorW.PrintLast Go.Proofs.YtjnmcgeahomkeaaDoorM
end Go.Proofs.YtjnmcgeahomkeaaDoor.P
end

section
set_option linter.unusedVariables false
set_option linter.unusedSimpArgs false
namespace Go.Proofs.YtjnmcgeahomkeaaDoor.P
open Go.RowKit Go.Proofs.YtjnmcgeahomkeaaDoorW.PrintWords Go.Proofs.YtjnmcgeahomkeaaDoorW.PrintLast Go.Proofs.YtjnmcgeahomkeaaDoorM
end Go.Proofs.YtjnmcgeahomkeaaDoor.P
end

section
set_option linter.unusedVariables false
set_option linter.unusedSimpArgs false
namespace Go.Proofs.YtjnmcgeahomkeaaDoor.P
open Go.RowKit Go.Proofs.YtjnmcgeahomkeaaDoorW.PrintWords Go.Proofs.YtjnmcgeahomkeaaDoorW.PrintLast Go.Proofs.YtjnmcgeahomkeaaDoorM
end Go.Proofs.YtjnmcgeahomkeaaDoor.P
end

section
set_option linter.unusedVariables false
set_option linter.unusedSimpArgs false
namespace Go.Proofs.YtjnmcgeahomkeaaDoor.P
open Go.RowKit Go.Proofs.YtjnmcgeahomkeaaDoorW.PrintWords Go.Proofs.YtjnmcgeahomkeaaDoorW.PrintLast Go.Proofs.YtjnmcgeahomkeaaDoorM
def pre (q s : ByteArray) : Bool := decide ((bs s).take q.size = bs q)
theorem pre_le {q s : ByteArray} (h : pre q s = true) : q.size ≤ s.size := by
  have h1 := congrArg List.length (of_decide_eq_true h)
  rw [List.length_take, bs_length, bs_length] at h1
  omega
theorem beq_upto (q s : ByteArray) : ((s.extract 0 q.size).toList == q.toList) = pre q s := by
  rw [toList_bs, toList_bs, bs_upto]
  unfold pre
  by_cases h : (bs s).take q.size = bs q
  · rw [h]; simp
  · rw [decide_eq_false h]; simpa using h
def slash (p : ByteArray) : ByteArray := p ++ ⟨#[47]⟩
theorem slash_size (p : ByteArray) : (slash p).size = p.size + 1 := by rw [slash, ByteArray.size_append]; rfl
theorem spec_l10Under_eq (s p : ByteArray) (hp : p.size ≤ 1048576) : spec_l10Under.f s p = some (pre (slash p) s) := by
  have hs := slash_size p
  unfold spec_l10Under.f
  rw [wrap64_id (by omega) (by omega)]
  by_cases h : p.size < s.size
  · rw [if_pos (by omega), if_pos (by omega), if_pos (by omega), if_pos (by omega)]
    have e : ((p.size : Int) + 1).toNat = (slash p).size := by omega
    rw [e]
    exact congrArg some (beq_upto (slash p) s)
  · rw [if_neg (by omega)]
    cases hq : pre (slash p) s with
    | false => rfl
    | true => exact absurd (pre_le hq) (by omega)
theorem first_spec (p : ByteArray) : ∀ (l : List S29) (i : Nat), (impl_entryAt.first p l (i : Int) = -1 ∧ ∀ e ∈ l, e.f0 ≠ p) ∨ ∃ j, j < l.length ∧ impl_entryAt.first p l (i : Int) = ((i + j : Nat) : Int) ∧ (gd l j).f0 = p
  | [], i => .inl ⟨rfl, fun e h => by cases h⟩
  | e :: l, i => by
    rw [impl_entryAt.first]
    by_cases h : e.f0 = p
    · rw [if_pos (by rw [h]; simp)]
      exact .inr ⟨0, by simp, by simp, h⟩
    · rw [if_neg (fun hh => h (bs_inj (by rw [← toList_bs, ← toList_bs]; simpa using hh)))]
      have hi : ((i : Int) + 1) = ((i + 1 : Nat) : Int) := by omega
      rw [hi]
      rcases first_spec p l (i + 1) with ⟨h1, h2⟩ | ⟨j, h1, h2, h3⟩
      · exact .inl ⟨h1, fun x hx => by
          rcases List.mem_cons.1 hx with rfl | hx
          · exact h
          · exact h2 x hx⟩
      · refine .inr ⟨j + 1, by simp; omega, ?_, h3⟩
        rw [h2]; omega
theorem entryAt_eq (t : List S29) (p : ByteArray) : ∃ r, impl_entryAt.f t p = some r ∧ ((r = -1 ∧ ∀ i, i < t.length → (gd t i).f0 ≠ p) ∨ ∃ j : Nat, r = j ∧ j < t.length ∧ (gd t j).f0 = p) := by
  refine ⟨_, rfl, ?_⟩
  rcases first_spec p t 0 with ⟨h1, h2⟩ | ⟨j, h1, h2, h3⟩
  · exact .inl ⟨h1, fun i hi => h2 _ (gd_mem t i hi)⟩
  · exact .inr ⟨j, by rw [show ((0 : Nat) : Int) = 0 from rfl] at h2; rw [h2]; omega, h1, h3⟩
theorem treeOk_risen {t : List S29} (h : treeOk t) : risen t t.length := fun j h1 h2 => (h.2 j h2).2.1 h1
end Go.Proofs.YtjnmcgeahomkeaaDoor.P
end

section
set_option linter.unusedVariables false
set_option linter.unusedSimpArgs false
namespace Go.Proofs.YtjnmcgeahomkeaaDoor.P
open Go.RowKit Go.Proofs.YtjnmcgeahomkeaaDoorW.PrintWords Go.Proofs.YtjnmcgeahomkeaaDoorW.PrintLast Go.Proofs.YtjnmcgeahomkeaaDoorM
def lessE (a b : S29) : Prop := less a.f0 b.f0 = true
theorem risen_pair (t : List S29) : risen t t.length ↔ t.Pairwise lessE := by
  rw [List.pairwise_iff_getElem]
  constructor
  · intro h i j hi hj hij
    have := risen_less h hij hj
    rwa [gd_get t i hi, gd_get t j hj] at this
  · intro h j h0 h1
    have := h (j - 1) j (by omega) h1 (by omega)
    unfold lessE at this
    rwa [gd_get t (j - 1) (by omega), gd_get t j h1]
def isDir (t : List S29) (p : ByteArray) : Prop := ∃ y ∈ t, y.f0 = p ∧ y.f1 = 1
theorem isDir_iff (t : List S29) (p : ByteArray) : isDir t p ↔ dirAt t t.length p := by
  constructor
  · rintro ⟨y, hy, h1, h2⟩
    obtain ⟨i, hi, rfl⟩ := mem_gd hy
    exact ⟨i, hi, h1, h2⟩
  · rintro ⟨i, hi, h1, h2⟩
    exact ⟨gd t i, gd_mem t i hi, h1, h2⟩
theorem treeOk_mem (t : List S29) : treeOk t ↔ t.length ≤ 500 ∧ (∀ x ∈ t, entryOk x = true) ∧ t.Pairwise lessE ∧ ∀ x ∈ t, (upOf x.f0).2 = true → isDir t (upOf x.f0).1 := by
  rw [← treeOk_iff, ← risen_pair]
  constructor
  · rintro ⟨h0, h1, h2⟩
    refine ⟨h0, fun x hx => ?_, fun j a b => (h1 j b).2 a, fun x hx hu => ?_⟩
    · obtain ⟨i, hi, rfl⟩ := mem_gd hx
      exact (h1 i hi).1
    · obtain ⟨i, hi, rfl⟩ := mem_gd hx
      exact (isDir_iff t _).2 (h2 i hi hu)
  · rintro ⟨h0, h1, h2, h3⟩
    exact ⟨h0, fun j hj => ⟨h1 _ (gd_mem t j hj), fun a => h2 j a hj⟩, fun j hj hu => (isDir_iff t _).1 (h3 _ (gd_mem t j hj) hu)⟩
theorem upOf_spec (s : ByteArray) (hu : (upOf s).2 = true) : ∃ i : Nat, ∃ hi : i < (bs s).length, (upOf s).1 = s.extract 0 i ∧ (bs s)[i] = 47 ∧ ∀ j, i < j → ∀ hj : j < (bs s).length, (bs s)[j] ≠ 47 := by
  unfold upOf at hu ⊢
  have hb : ∀ i, ∀ hi : i < (bs s).length, s.data[i]! = (bs s)[i] := fun i hi => by
    have h2 : i < s.data.size := by have := bs_length s; show i < s.size; omega
    rw [getElem!_pos s.data i h2]; simp [bs]
  rcases Lib.lastIndexByte_spec s 47 with ⟨h, _⟩ | ⟨i, hi, h, hc, hl⟩
  · rw [h, if_pos (by omega)] at hu
    cases hu
  · rw [h, if_neg (by omega)]
    have hi' : i < (bs s).length := by rw [bs_length]; exact hi
    refine ⟨i, hi', by simp, ?_, fun j hij hj he => ?_⟩
    · rw [hb i hi'] at hc
      exact UInt8.toNat_inj.mp (by show _ = 47; omega)
    · have := hl j hij (by rw [bs_length] at hj; exact hj)
      rw [hb j hj, he] at this
      exact this rfl
theorem upOf_has (s : ByteArray) (i : Nat) (hi : i < (bs s).length) (h : (bs s)[i] = 47) : (upOf s).2 = true := by
  unfold upOf
  have h2 : i < s.data.size := by have := bs_length s; show i < s.size; omega
  rcases Lib.lastIndexByte_spec s 47 with ⟨h0, hn⟩ | ⟨j, hj, hh, hc, hl⟩
  · exfalso
    refine hn i h2 ?_
    rw [getElem!_pos s.data i h2]
    have h3 : s.data[i] = (bs s)[i]'hi := by simp [bs]
    rw [h3]
    exact congrArg (fun x : UInt8 => (x.toNat : Int)) h
  · rw [hh, if_neg (by omega)]
theorem bs_slash (p : ByteArray) : bs (slash p) = bs p ++ [47] := by
  unfold slash bs
  rw [ByteArray.data_append, Array.toList_append]
theorem pre_iff (q s : ByteArray) : pre q s = true ↔ bs q <+: bs s := by
  unfold pre
  rw [decide_eq_true_iff, List.prefix_iff_eq_take, bs_length]
  exact eq_comm
theorem pre_of_up {s p : ByteArray} (hu : (upOf s).2 = true) (h : (upOf s).1 = p) : pre (slash p) s = true := by
  obtain ⟨i, hi, h1, h2, _⟩ := upOf_spec s hu
  rw [pre_iff, bs_slash, ← h, h1, bs_upto]
  refine ⟨(bs s).drop (i + 1), ?_⟩
  rw [List.append_assoc, List.singleton_append, ← h2, ← List.drop_eq_getElem_cons hi, List.take_append_drop]
theorem less_of_pre {s p : ByteArray} (h : pre (slash p) s = true) : less p s = true := by
  rw [pre_iff, bs_slash] at h
  obtain ⟨r, hr⟩ := h
  unfold less
  have h1 := less_begin (bs s) (bs p).length (by rw [← hr]; simp)
  rwa [show (bs s).take (bs p).length = bs p by rw [← hr, List.append_assoc, List.take_left]] at h1
theorem less_up (s : ByteArray) (hu : (upOf s).2 = true) : less (upOf s).1 s = true := less_of_pre (pre_of_up hu rfl)
theorem pre_up {s p : ByteArray} (h : pre (slash p) s = true) : (upOf s).2 = true ∧ ((upOf s).1 = p ∨ (pre (slash p) (upOf s).1 = true ∧ (upOf s).1.size < s.size)) := by
  rw [pre_iff, bs_slash] at h
  obtain ⟨r, hr⟩ := h
  have hpl : (bs p).length < (bs s).length := by rw [← hr]; simp
  have hp47 : (bs s)[(bs p).length] = 47 := by
    have : (bs s)[(bs p).length]? = some 47 := by rw [← hr]; simp
    rw [List.getElem?_eq_getElem hpl] at this
    exact Option.some.inj this
  have hu := upOf_has s _ hpl hp47
  obtain ⟨i, hi, h1, h2, h3⟩ := upOf_spec s hu
  refine ⟨hu, ?_⟩
  have hge : (bs p).length ≤ i := by
    rcases Nat.lt_or_ge i (bs p).length with hlt | hge
    · exact absurd hp47 (h3 _ hlt hpl)
    · exact hge
  rcases Nat.eq_or_lt_of_le hge with he | hlt
  · left
    apply bs_inj
    rw [h1, bs_upto, ← he, ← hr, List.append_assoc, List.take_left]
  · right
    constructor
    · rw [pre_iff, bs_slash, h1, bs_upto]
      rw [← hr]
      refine ⟨r.take (i - ((bs p).length + 1)), ?_⟩
      rw [List.take_append, List.take_of_length_le (l := bs p ++ [47]) (by simp; omega)]
      simp
    · rw [h1]
      have h4 : (bs (s.extract 0 i)).length = i := by rw [bs_upto, List.length_take]; omega
      rw [bs_length] at h4
      rw [bs_length] at hi
      omega
theorem climb {t : List S29} (ht : treeOk t) (p : ByteArray) : ∀ (n : Nat) (x : S29), x.f0.size ≤ n → x ∈ t → pre (slash p) x.f0 = true → ∃ x' ∈ t, (upOf x'.f0).2 = true ∧ (upOf x'.f0).1 = p := by
  intro n
  induction n with
  | zero =>
    intro x hn hx hp
    have := pre_le hp
    rw [slash_size] at this
    omega
  | succ n ih =>
    intro x hn hx hp
    obtain ⟨hu, h⟩ := pre_up hp
    rcases h with h | ⟨h1, h2⟩
    · exact ⟨x, hx, hu, h⟩
    · obtain ⟨y, hy, he, _⟩ := ((treeOk_mem t).1 ht).2.2.2 x hx hu
      exact ih y (by rw [he]; omega) hy (by rw [he]; exact h1)
def putR (e : S29) : List S29 → List S29
  | [] => [e]
  | x :: t => if less x.f0 e.f0 = true then x :: putR e t else if x.f0 = e.f0 then e :: t else e :: x :: t
theorem putR_mem (e : S29) : ∀ t : List S29, t.Pairwise lessE → ∀ x, x ∈ putR e t ↔ x = e ∨ (x ∈ t ∧ x.f0 ≠ e.f0)
  | [], _, x => by simp [putR]
  | y :: t, h, x => by
    rw [List.pairwise_cons] at h
    rw [putR]
    by_cases h1 : less y.f0 e.f0 = true
    · rw [if_pos h1, List.mem_cons, putR_mem e t h.2 x, List.mem_cons]
      constructor
      · rintro (rfl | rfl | ⟨h2, h3⟩)
        · exact .inr ⟨.inl rfl, less_ne h1⟩
        · exact .inl rfl
        · exact .inr ⟨.inr h2, h3⟩
      · rintro (rfl | ⟨rfl | h2, h3⟩)
        · exact .inr (.inl rfl)
        · exact .inl rfl
        · exact .inr (.inr ⟨h2, h3⟩)
    · rw [if_neg h1]
      by_cases h2 : y.f0 = e.f0
      · rw [if_pos h2, List.mem_cons, List.mem_cons]
        constructor
        · rintro (rfl | h3)
          · exact .inl rfl
          · exact .inr ⟨.inr h3, fun he => by have := h.1 x h3; unfold lessE at this; rw [h2, he, less_irrefl] at this; cases this⟩
        · rintro (rfl | ⟨rfl | h3, h4⟩)
          · exact .inl rfl
          · exact absurd h2 h4
          · exact .inr h3
      · rw [if_neg h2, List.mem_cons, List.mem_cons]
        have hey : less e.f0 y.f0 = true := by
          cases h3 : less e.f0 y.f0 with
          | true => rfl
          | false => exact absurd (less_tri (by simpa using h1) h3) h2
        constructor
        · rintro (rfl | rfl | h3)
          · exact .inl rfl
          · exact .inr ⟨.inl rfl, h2⟩
          · exact .inr ⟨.inr h3, fun he => by have := less_trans hey (h.1 x h3); rw [he, less_irrefl] at this; cases this⟩
        · rintro (rfl | ⟨h3, _⟩)
          · exact .inl rfl
          · exact .inr h3
theorem putR_pair (e : S29) : ∀ t : List S29, t.Pairwise lessE → (putR e t).Pairwise lessE
  | [], _ => by simp [putR]
  | y :: t, h0 => by
    have h := h0
    rw [List.pairwise_cons] at h
    rw [putR]
    by_cases h1 : less y.f0 e.f0 = true
    · rw [if_pos h1, List.pairwise_cons]
      refine ⟨fun x hx => ?_, putR_pair e t h.2⟩
      rcases (putR_mem e t h.2 x).1 hx with rfl | ⟨h2, _⟩
      · exact h1
      · exact h.1 x h2
    · rw [if_neg h1]
      by_cases h2 : y.f0 = e.f0
      · rw [if_pos h2, List.pairwise_cons]
        exact ⟨fun x hx => by have := h.1 x hx; unfold lessE at this ⊢; rwa [h2] at this, h.2⟩
      · have hey : less e.f0 y.f0 = true := by
          cases h3 : less e.f0 y.f0 with
          | true => rfl
          | false => exact absurd (less_tri (by simpa using h1) h3) h2
        rw [if_neg h2, List.pairwise_cons]
        refine ⟨fun x hx => ?_, h0⟩
        rcases List.mem_cons.1 hx with rfl | hx
        · exact hey
        · exact less_trans hey (h.1 x hx)
theorem putR_length (e : S29) : ∀ t : List S29, t.length ≤ (putR e t).length ∧ (putR e t).length ≤ t.length + 1
  | [] => by simp [putR]
  | y :: t => by
    have := putR_length e t
    rw [putR]
    split
    · simp only [List.length_cons]; omega
    · split
      · simp
      · simp
def putOk (t : List S29) (e : S29) : Prop := entryOk e = true ∧ ((upOf e.f0).2 = true → isDir t (upOf e.f0).1) ∧ (e.f1 = 1 ∨ ∀ x ∈ t, pre (slash e.f0) x.f0 = false) ∧ (putR e t).length ≤ 500
theorem putOk_iff {t : List S29} (ht : treeOk t) (e : S29) : treeOk (putR e t) ↔ putOk t e := by
  have htm := (treeOk_mem t).1 ht
  have hpw := htm.2.2.1
  rw [treeOk_mem]
  constructor
  · rintro ⟨h0, h1, h2, h3⟩
    refine ⟨h1 e ((putR_mem e t hpw e).2 (.inl rfl)), fun hu => ?_, ?_, h0⟩
    · obtain ⟨y, hy, he, hk⟩ := h3 e ((putR_mem e t hpw e).2 (.inl rfl)) hu
      rcases (putR_mem e t hpw y).1 hy with rfl | ⟨hy2, _⟩
      · have := less_up _ hu
        rw [← he, less_irrefl] at this
        cases this
      · exact ⟨y, hy2, he, hk⟩
    · by_cases hk : e.f1 = 1
      · exact .inl hk
      · refine .inr fun x hx => ?_
        cases hp : pre (slash e.f0) x.f0 with
        | false => rfl
        | true =>
          exfalso
          obtain ⟨x', hx', hu, he⟩ := climb ht e.f0 _ x (Nat.le_refl _) hx hp
          have hne : x'.f0 ≠ e.f0 := fun h4 => by
            have := less_up _ hu
            rw [he, h4, less_irrefl] at this
            cases this
          obtain ⟨y, hy, hye, hyk⟩ := h3 x' ((putR_mem e t hpw x').2 (.inr ⟨hx', hne⟩)) hu
          rcases (putR_mem e t hpw y).1 hy with rfl | ⟨_, hy3⟩
          · exact hk hyk
          · exact hy3 (hye.trans he)
  · rintro ⟨h0, h1, h2, h3⟩
    refine ⟨h3, fun x hx => ?_, putR_pair e t hpw, fun x hx hu => ?_⟩
    · rcases (putR_mem e t hpw x).1 hx with rfl | ⟨hx2, _⟩
      · exact h0
      · exact htm.2.1 x hx2
    · rcases (putR_mem e t hpw x).1 hx with rfl | ⟨hx2, _⟩
      · obtain ⟨y, hy, he, hk⟩ := h1 hu
        refine ⟨y, (putR_mem x t hpw y).2 (.inr ⟨hy, fun h4 => ?_⟩), he, hk⟩
        have := less_up _ hu
        rw [← he, h4, less_irrefl] at this
        cases this
      · obtain ⟨y, hy, he, hk⟩ := htm.2.2.2 x hx2 hu
        by_cases h4 : y.f0 = e.f0
        · refine ⟨e, (putR_mem e t hpw e).2 (.inl rfl), h4.symm.trans he, ?_⟩
          rcases h2 with h2 | h2
          · exact h2
          · have := h2 x hx2
            rw [pre_of_up hu (he.symm.trans h4)] at this
            cases this
        · exact ⟨y, (putR_mem e t hpw y).2 (.inr ⟨hy, h4⟩), he, hk⟩
end Go.Proofs.YtjnmcgeahomkeaaDoor.P
end

section
set_option linter.unusedVariables false
set_option linter.unusedSimpArgs false
namespace Go.Proofs.YtjnmcgeahomkeaaDoor.P
open Go.RowKit Go.Proofs.YtjnmcgeahomkeaaDoorW.PrintWords Go.Proofs.YtjnmcgeahomkeaaDoorW.PrintLast Go.Proofs.YtjnmcgeahomkeaaDoorM
theorem spec_l10Full_l0 (t : List S29) (p : ByteArray) (hp : p.size ≤ 1048576) (hl : t.length ≤ 500) : ∀ (n k i : Nat), n + 1 ≤ k → i + n = t.length →
    ∃ b, spec_l10Full.l0 k t p (i : Int) = some b ∧ (b = true ↔ ∃ x ∈ t.drop i, pre (slash p) x.f0 = true) := by
  intro n
  induction n with
  | zero =>
    intro k i hk hi
    obtain ⟨k, rfl⟩ : ∃ k', k = k' + 1 := ⟨k - 1, by omega⟩
    rw [spec_l10Full.l0, if_neg (by omega), List.drop_eq_nil_of_le (by omega)]
    exact ⟨false, rfl, by simp⟩
  | succ n ih =>
    intro k i hk hi
    obtain ⟨k, rfl⟩ : ∃ k', k = k' + 1 := ⟨k - 1, by omega⟩
    have hw : wrap64 ((i : Int) + 1) = ((i + 1 : Nat) : Int) := by rw [wrap64_id (by omega) (by omega)]; omega
    have hlt : i < t.length := by omega
    obtain ⟨b, hb, hbb⟩ := ih k (i + 1) (by omega) (by omega)
    rw [spec_l10Full.l0, if_pos (by omega), if_pos (by omega), rd_gd, spec_l10Under_eq _ _ hp, Option.bind_some, hw, List.drop_eq_getElem_cons hlt, ← gd_get t i hlt]
    cases hq : pre (slash p) (gd t i).f0 with
    | true => exact ⟨true, by rw [if_pos rfl], by simp [hq]⟩
    | false =>
      refine ⟨b, by rw [if_neg (by decide)]; exact hb, ?_⟩
      rw [hbb]
      simp [hq]
theorem spec_l10Full_eq (t : List S29) (p : ByteArray) (hp : p.size ≤ 1048576) (hl : t.length ≤ 500) (k : Nat) (hk : 502 ≤ k) : ∃ b, spec_l10Full.f k t p = some b ∧ (b = true ↔ ∃ x ∈ t, pre (slash p) x.f0 = true) := by
  have h := spec_l10Full_l0 t p hp hl t.length k 0 (by omega) (by omega)
  rwa [List.drop_zero] at h
theorem spec_l10Copy_eq (t : List S29) (hl : t.length ≤ 1000) : spec_l10Copy.f t = some t := by
  unfold spec_l10Copy.f
  rw [Option.bind_some, if_pos (by simp; omega)]
  simp
def fin500 (t a : List S29) : List S29 × Bool := if a.length > 500 then (t, false) else (a, true)
theorem toList_ne {a b : ByteArray} (h : a ≠ b) : a.toList ≠ b.toList := fun e => h (bs_inj (by rw [← toList_bs, ← toList_bs]; exact e))
theorem eta_e (e : S29) : (⟨e.f0, e.f1, e.f2, e.f3⟩ : S29) = e := rfl
theorem put_done (t : List S29) (e : S29) (hl : t.length ≤ 500) : ∀ (n k i : Nat) (acc : List S29), 2 * n + 2 ≤ k → i + n = t.length → acc.length ≤ i + 1 → (∀ x ∈ t.drop i, x.f0 ≠ e.f0) →
    spec_l10Put.l0 k t acc true (i : Int) e.f0 e.f1 e.f2 e.f3 = some (fin500 t (acc ++ t.drop i)) := by
  intro n
  induction n with
  | zero =>
    intro k i acc hk hi ha hne
    obtain ⟨k, rfl⟩ : ∃ k', k = k' + 1 := ⟨k - 1, by omega⟩
    rw [spec_l10Put.l0, if_neg (by omega), if_pos rfl, List.drop_eq_nil_of_le (by omega), List.append_nil, spec_l10Copy_eq t (by omega)]
    unfold fin500
    by_cases h : acc.length > 500
    · rw [if_pos (by omega), if_pos h]; rfl
    · rw [if_neg (by omega), if_neg h]
  | succ n ih =>
    intro k i acc hk hi ha hne
    obtain ⟨k, rfl⟩ : ∃ k', k = k' + 2 := ⟨k - 2, by omega⟩
    have hw : wrap64 ((i : Int) + 1) = ((i + 1 : Nat) : Int) := by rw [wrap64_id (by omega) (by omega)]; omega
    have hlt : i < t.length := by omega
    rw [List.drop_eq_getElem_cons hlt, ← gd_get t i hlt] at hne ⊢
    have h1 : (gd t i).f0 ≠ e.f0 := hne _ List.mem_cons_self
    rw [spec_l10Put.l0, if_pos (by omega), if_pos rfl, spec_l10Put.j2, if_neg (by decide), if_pos (by omega), if_pos (by omega), rd_gd, if_neg (toList_ne h1), if_pos (by omega), hw,
      ih k (i + 1) _ (by omega) (by omega) (by rw [List.length_append, List.length_singleton]; omega) (fun x hx => hne x (List.mem_cons_of_mem _ hx))]
    rw [List.append_assoc, List.singleton_append]
theorem put_go (t : List S29) (e : S29) (hl : t.length ≤ 500) : ∀ (n k i : Nat) (acc : List S29), 2 * n + 2 ≤ k → i + n = t.length → acc.length ≤ i → (t.drop i).Pairwise lessE →
    spec_l10Put.l0 k t acc false (i : Int) e.f0 e.f1 e.f2 e.f3 = some (fin500 t (acc ++ putR e (t.drop i))) := by
  intro n
  induction n with
  | zero =>
    intro k i acc hk hi ha hpw
    obtain ⟨k, rfl⟩ : ∃ k', k = k' + 1 := ⟨k - 1, by omega⟩
    rw [spec_l10Put.l0, if_neg (by omega), if_neg (by decide), if_pos (by omega), Option.bind_some, List.drop_eq_nil_of_le (by omega), spec_l10Copy_eq t (by omega), putR]
    simp only [eta_e]
    unfold fin500
    by_cases h : (acc ++ [e]).length > 500
    · rw [if_pos (by omega), if_pos h]; rfl
    · rw [if_neg (by omega), if_neg h]
  | succ n ih =>
    intro k i acc hk hi ha hpw
    obtain ⟨k, rfl⟩ : ∃ k', k = k' + 2 := ⟨k - 2, by omega⟩
    have hw : wrap64 ((i : Int) + 1) = ((i + 1 : Nat) : Int) := by rw [wrap64_id (by omega) (by omega)]; omega
    have hlt : i < t.length := by omega
    rw [List.drop_eq_getElem_cons hlt, ← gd_get t i hlt] at hpw ⊢
    rw [List.pairwise_cons] at hpw
    rw [spec_l10Put.l0, if_pos (by omega), if_neg (by decide), if_pos (by omega), spec_l10Put.j2, rd_gd, bl_less, putR, hw]
    cases h1 : less (gd t i).f0 e.f0 with
    | true =>
      rw [if_neg (by decide), if_pos (by omega), if_pos (by omega), if_neg (toList_ne (less_ne h1)), if_pos (by omega),
        ih k (i + 1) _ (by omega) (by omega) (by rw [List.length_append, List.length_singleton]; omega) hpw.2]
      rw [if_pos rfl, List.append_assoc, List.singleton_append]
    | false =>
      rw [if_pos (show (!false) = true from rfl), if_pos (by omega), Option.bind_some, if_pos (by omega), if_pos (by omega), if_neg (show ¬ (false = true) by decide)]
      by_cases h2 : (gd t i).f0 = e.f0
      · rw [if_pos (by rw [h2]), if_pos h2, put_done t e hl n k (i + 1) _ (by omega) (by omega) (by rw [List.length_append, List.length_singleton]; omega)
          (fun x hx he => by have := hpw.1 x hx; unfold lessE at this; rw [h2, he, less_irrefl] at this; cases this)]
        rw [List.append_assoc, List.singleton_append]
      · have hey : less e.f0 (gd t i).f0 = true := by
          cases h3 : less e.f0 (gd t i).f0 with
          | true => rfl
          | false => exact absurd (less_tri h1 h3) h2
        rw [if_neg (toList_ne h2), if_neg h2, if_pos (by rw [List.length_append, List.length_singleton]; omega), put_done t e hl n k (i + 1) _ (by omega) (by omega) (by simp only [List.length_append, List.length_singleton]; omega)
          (fun x hx he => by have := less_trans hey (hpw.1 x hx); rw [he, less_irrefl] at this; cases this)]
        simp
open Classical in
/-- What PutEntry answers. -/
noncomputable def putOf (t : List S29) (e : S29) : List S29 × Bool := if treeOk t then (if putOk t e then (putR e t, true) else (t, false)) else ([], false)
theorem treeOk_pair {t : List S29} (h : treeOk t) : t.Pairwise lessE := ((treeOk_mem t).1 h).2.2.1
open Classical in
theorem spec_PutEntry_eq (t : List S29) (e : S29) (hz : smallT t) (hp : e.f0.size ≤ 1048576) (k : Nat) (hk : 2200000 ≤ k) : spec_PutEntry.f k t e.f0 e.f1 e.f2 e.f3 = some (putOf t e) := by
  obtain ⟨b, hb1, hb2⟩ := spec_TreeOk_eq t hz k (by omega)
  unfold spec_PutEntry.f putOf
  rw [hb1, Option.bind_some]
  by_cases hok : treeOk t
  · have hl := hok.1
    rw [if_pos (hb2.2 hok), if_pos hok]
    unfold spec_l10Put.f
    rw [spec_l10Up_eq _ (by omega) k (by omega), Option.bind_some, spec_l10EntryOk_eq e (by omega) k (by omega), Option.bind_some]
    obtain ⟨k, rfl⟩ : ∃ k', k = k' + 1 := ⟨k - 1, by omega⟩
    have hno : ∀ r, (spec_l10Put.j0 (k + 1) t true e.f0 e.f1 e.f2 e.f3 = some r ↔ r = (t, false)) := fun r => by
      rw [spec_l10Put.j0, if_pos rfl, spec_l10Copy_eq t (by omega), Option.bind_some]
      exact ⟨fun h => (Option.some.inj h).symm, fun h => by rw [h]⟩
    have hgo : spec_l10Put.j0 (k + 1) t false e.f0 e.f1 e.f2 e.f3 = some (fin500 t (putR e t)) := by
      have h1 := put_go t e hl t.length k 0 [] (by omega) (by omega) (by simp) (by rw [List.drop_zero]; exact treeOk_pair hok)
      rw [spec_l10Put.j0, if_neg (by decide)]
      simpa using h1
    -- what the last part says
    have hlast : ∀ b, (b = true ↔ ¬ (e.f1 = 1 ∨ ∀ x ∈ t, pre (slash e.f0) x.f0 = false)) → entryOk e = true → ((upOf e.f0).2 = true → isDir t (upOf e.f0).1) →
        spec_l10Put.j0 (k + 1) t b e.f0 e.f1 e.f2 e.f3 = some (if putOk t e then (putR e t, true) else (t, false)) := by
      intro b hb h0 h1
      cases b with
      | true =>
        rw [if_neg (fun h => hb.1 rfl h.2.2.1)]
        exact (hno _).2 rfl
      | false =>
        have h2 : e.f1 = 1 ∨ ∀ x ∈ t, pre (slash e.f0) x.f0 = false := Classical.byContradiction fun h => by cases hb.2 h
        rw [hgo]
        unfold fin500
        by_cases h3 : (putR e t).length > 500
        · rw [if_pos h3, if_neg (fun h => by have := h.2.2.2; omega)]
        · rw [if_neg h3, if_pos ⟨h0, h1, h2, by omega⟩]
    have hfull : entryOk e = true → ((upOf e.f0).2 = true → isDir t (upOf e.f0).1) → e.f1 ≠ 1 →
        ((spec_l10Full.f (k + 1) t e.f0).bind fun t589 => spec_l10Put.j0 (k + 1) t t589 e.f0 e.f1 e.f2 e.f3) = some (if putOk t e then (putR e t, true) else (t, false)) := by
      intro h0 h1 h2
      obtain ⟨b, hbf, hbb⟩ := spec_l10Full_eq t e.f0 hp hl (k + 1) (by omega)
      rw [hbf, Option.bind_some]
      refine hlast b ?_ h0 h1
      rw [hbb]
      constructor
      · rintro ⟨x, hx, hpx⟩ (h | h)
        · exact h2 h
        · rw [h x hx] at hpx; cases hpx
      · intro h
        refine Classical.byContradiction fun h3 => h (.inr fun x hx => ?_)
        cases h4 : pre (slash e.f0) x.f0 with
        | false => rfl
        | true => exact absurd ⟨x, hx, h4⟩ h3
    have hdir1 : e.f1 = 1 → ((false : Bool) = true ↔ ¬ (e.f1 = 1 ∨ ∀ x ∈ t, pre (slash e.f0) x.f0 = false)) := fun h => ⟨fun h2 => (by cases h2), fun h2 => absurd (.inl h) h2⟩
    have hbind : ∀ (a : Option (List S29 × Bool)) r, a = some r → (a.bind fun bt621 => some (bt621.1, bt621.2)) = some r := fun a r h => by rw [h]; rfl
    refine hbind _ _ ?_
    cases heo : entryOk e with
    | false =>
      rw [if_neg (by decide), if_neg (fun h => by have := h.1; rw [heo] at this; cases this)]
      exact (hno _).2 rfl
    | true =>
      rw [if_pos rfl]
      cases hu : (upOf e.f0).2 with
      | false =>
        have hun : ((upOf e.f0).2 = true → isDir t (upOf e.f0).1) := fun h => by rw [hu] at h; cases h
        rw [if_pos (by rw [upOf_no _ hu]; exact (toList_nil _).2 rfl)]
        by_cases hk1 : e.f1 = 1
        · rw [if_pos hk1]
          exact hlast false (hdir1 hk1) heo hun
        · rw [if_neg hk1]
          exact hfull heo hun hk1
      | true =>
        obtain ⟨q, hq0, hq1, hq⟩ := upOf_ok _ (entryOk_path heo) hu
        have hsz : (upOf e.f0).1.size ≠ 0 := by
          have : (bs (upOf e.f0).1).length = q := by rw [hq, bs_upto, List.length_take, bs_length]; omega
          rw [bs_length] at this
          omega
        rw [if_neg (fun h => hsz ((toList_nil _).1 h))]
        obtain ⟨b, hd1, hd2⟩ := spec_l10Dir_eq t t.length (upOf e.f0).1 (Nat.le_refl _) (by omega) (treeOk_risen hok) (k + 1) (by omega)
        rw [List.take_length] at hd1
        rw [hd1, Option.bind_some]
        cases b with
        | false =>
          rw [if_neg (by decide), if_neg (fun h => by have := hd2.2 ((isDir_iff t _).1 (h.2.1 hu)); cases this)]
          exact (hno _).2 rfl
        | true =>
          have hun : ((upOf e.f0).2 = true → isDir t (upOf e.f0).1) := fun _ => (isDir_iff t _).2 (hd2.1 rfl)
          rw [if_pos rfl]
          by_cases hk1 : e.f1 = 1
          · rw [if_pos hk1]
            exact hlast false (hdir1 hk1) heo hun
          · rw [if_neg hk1]
            exact hfull heo hun hk1
  · rw [if_neg (fun h => hok (hb2.1 h)), if_neg hok]
theorem put_first (e : S29) : ∀ (t : List S29) (i : Nat), (∀ x ∈ t, x.f0 ≠ e.f0) → (impl_PutEntry.first (impl_PutEntry.gtB e.f0) t (i : Int) = -1 ∧ putR e t = t ++ [e]) ∨ ∃ j, j ≤ t.length ∧ impl_PutEntry.first (impl_PutEntry.gtB e.f0) t (i : Int) = ((i + j : Nat) : Int) ∧ putR e t = t.take j ++ e :: t.drop j
  | [], i, _ => .inl ⟨rfl, rfl⟩
  | x :: t, i, h => by
    have hx := h x List.mem_cons_self
    rw [impl_PutEntry.first, putR]
    unfold impl_PutEntry.gtB
    rw [bl_less]
    cases h1 : less e.f0 x.f0 with
    | true =>
      refine .inr ⟨0, Nat.zero_le _, by rw [if_pos rfl]; simp, ?_⟩
      rw [if_neg (by rw [less_asymm h1]; decide), if_neg hx]
      rfl
    | false =>
      have h2 : less x.f0 e.f0 = true := by
        cases h3 : less x.f0 e.f0 with
        | true => rfl
        | false => exact absurd (less_tri h3 h1) hx
      rw [if_neg (by decide), if_pos h2, show ((i : Int) + 1) = ((i + 1 : Nat) : Int) by omega]
      rcases put_first e t (i + 1) (fun y hy => h y (List.mem_cons_of_mem _ hy)) with ⟨h3, h4⟩ | ⟨j, hj, h3, h4⟩
      · exact .inl ⟨h3, by rw [h4]; rfl⟩
      · refine .inr ⟨j + 1, by simpa using hj, ?_, by rw [h4]; rfl⟩
        refine Eq.trans h3 ?_
        congr 1
        omega
theorem put_set (e : S29) : ∀ (t : List S29) (j : Nat), t.Pairwise lessE → j < t.length → (gd t j).f0 = e.f0 → putR e t = t.set j e
  | [], _, _, h, _ => absurd h (Nat.not_lt_zero _)
  | x :: t, 0, _, _, h => by
    have h : x.f0 = e.f0 := h
    rw [putR, if_neg (by rw [h, less_irrefl]; decide), if_pos h]
    rfl
  | x :: t, j + 1, hp, hj, h => by
    rw [List.pairwise_cons] at hp
    have hj' : j < t.length := by simpa using hj
    have h' : (gd t j).f0 = e.f0 := h
    have h1 := hp.1 _ (gd_mem t j hj')
    unfold lessE at h1
    rw [h'] at h1
    rw [putR, if_pos h1, put_set e t j hp.2 hj' h']
    rfl
theorem putR_small {t : List S29} {e : S29} (hpw : t.Pairwise lessE) (hz : smallT t) (hp : e.f0.size ≤ 1048576) : smallT (putR e t) := fun i => by
  by_cases h : i < (putR e t).length
  · rcases (putR_mem e t hpw _).1 (gd_mem _ i h) with h1 | ⟨h1, _⟩
    · rw [h1]; exact hp
    · obtain ⟨j, _, hj⟩ := mem_gd h1
      rw [← hj]; exact hz j
  · unfold gd
    rw [List.getD_eq_getElem?_getD, List.getElem?_eq_none (by omega)]
    exact Nat.zero_le _
theorem impl_PutEntry_eq (t : List S29) (e : S29) (hz : smallT t) (hp : e.f0.size ≤ 1048576) (k : Nat) (hk : 3000 ≤ k) : impl_PutEntry.f k t e.f0 e.f1 e.f2 e.f3 = some (putOf t e) := by
  obtain ⟨b, hb1, hb2⟩ := impl_TreeOk_eq t hz k (by omega)
  unfold impl_PutEntry.f putOf
  rw [hb1, Option.bind_some]
  by_cases hok : treeOk t
  · have hl := hok.1
    have hpw := treeOk_pair hok
    rw [if_pos (hb2.2 hok), if_pos hok]
    unfold impl_cloneTree.f
    rw [if_pos (by omega), Option.bind_some]
    obtain ⟨r, hr, hc⟩ := entryAt_eq t e.f0
    rw [hr, Option.bind_some, if_pos (by omega)]
    have hput : impl_PutEntry.put t ⟨e.f0, e.f1, e.f2, e.f3⟩ r = some (putR e t) := by
      unfold impl_PutEntry.put
      rcases hc with ⟨rfl, hno⟩ | ⟨j, rfl, hj, he⟩
      · rw [if_pos (by omega)]
        have hne : ∀ x ∈ t, x.f0 ≠ e.f0 := fun x hx => by
          obtain ⟨i, hi, rfl⟩ := mem_gd hx
          exact hno i hi
        rcases put_first e t 0 hne with ⟨h1, h2⟩ | ⟨j, hj, h1, h2⟩
        · have h1' : impl_PutEntry.first (impl_PutEntry.gtB e.f0) t 0 = -1 := h1
          rw [h1', if_pos (by decide), List.take_length, List.drop_length, h2]
        · have h1' : impl_PutEntry.first (impl_PutEntry.gtB e.f0) t 0 = (j : Int) := by simpa using h1
          rw [h1', if_neg (by omega), if_pos (by omega), Int.toNat_natCast, h2]
      · rw [if_neg (by omega), if_pos (by omega), Int.toNat_natCast, put_set e t j hpw hj he]
    rw [hput, Option.bind_some]
    obtain ⟨b2, hb3, hb4⟩ := impl_TreeOk_eq (putR e t) (putR_small hpw hz hp) k (by omega)
    rw [hb3, Option.bind_some]
    by_cases h5 : putOk t e
    · rw [if_pos (hb4.2 ((putOk_iff hok e).2 h5)), if_pos h5]
    · rw [if_neg (fun h => h5 ((putOk_iff hok e).1 (hb4.1 h))), if_neg h5]
  · rw [if_neg (fun h => hok (hb2.1 h)), if_neg hok]
end Go.Proofs.YtjnmcgeahomkeaaDoor.P
end

section
set_option linter.unusedVariables false
set_option linter.unusedSimpArgs false
namespace Go.Proofs.YtjnmcgeahomkeaaDoor.P
open Go.RowKit Go.Proofs.YtjnmcgeahomkeaaDoorW.PrintWords Go.Proofs.YtjnmcgeahomkeaaDoorW.PrintLast Go.Proofs.YtjnmcgeahomkeaaDoorW.PrintMore Go.Proofs.YtjnmcgeahomkeaaDoorM
theorem u64_id {n : Int} (h1 : 0 ≤ n) (h2 : n < 18446744073709551616) : IntKind.u64.wrap n = n := by
  have e : IntKind.u64.wrap n = n % 18446744073709551616 := by simp [IntKind.wrap, IntKind.bits, IntKind.signed]
  rw [e]; omega
theorem sum_l1 : ∀ (n k : Nat) (i h : Int), n + 1 ≤ k → 3 - i = n → 0 ≤ i → ∃ r, impl_Sum.l1 k h i = some r ∧ spec_Sum.l1 k h i = some r := by
  intro n
  induction n with
  | zero =>
    intro k i h hk hi h0
    obtain ⟨k, rfl⟩ : ∃ k', k = k' + 1 := ⟨k - 1, by omega⟩
    rw [impl_Sum.l1, spec_Sum.l1, if_neg (by omega), if_neg (by omega)]
    exact ⟨_, rfl, rfl⟩
  | succ n ih =>
    intro k i h hk hi h0
    obtain ⟨k, rfl⟩ : ∃ k', k = k' + 1 := ⟨k - 1, by omega⟩
    rw [impl_Sum.l1, spec_Sum.l1, if_pos (by omega), if_pos (by omega), wrap64_id (by omega) (by omega)]
    exact ih k (i + 1) _ (by omega) (by omega) (by omega)
theorem sum_l0 (l : List Int) (hl : l.length < 1099511627776) : ∀ (n k i : Nat) (h : Int), n + 6 ≤ k → i + n = l.length → ∃ r, impl_Sum.l0 k h l (l.length : Int) (i : Int) = some r ∧ spec_Sum.l0 k l h (i : Int) = some r := by
  intro n
  induction n with
  | zero =>
    intro k i h hk hi
    obtain ⟨k, rfl⟩ : ∃ k', k = k' + 1 := ⟨k - 1, by omega⟩
    rw [impl_Sum.l0, spec_Sum.l0, if_neg (by omega), if_neg (by omega)]
    exact sum_l1 3 k 0 h (by omega) (by omega) (by omega)
  | succ n ih =>
    intro k i h hk hi
    obtain ⟨k, rfl⟩ : ∃ k', k = k' + 1 := ⟨k - 1, by omega⟩
    have hw : wrap64 ((i : Int) + 1) = ((i + 1 : Nat) : Int) := by rw [wrap64_id (by omega) (by omega)]; omega
    rw [impl_Sum.l0, spec_Sum.l0, if_pos (by omega), if_pos (by omega), if_pos (by omega), if_pos (by omega), if_pos (by omega), hw]
    exact ih k (i + 1) _ (by omega) (by omega)
theorem sum_both (l : List Int) (hl : l.length < 1099511627776) (k : Nat) (hk : l.length + 6 ≤ k) : ∃ r, impl_Sum.f k l = some r ∧ spec_Sum.f k l = some r := by
  unfold impl_Sum.f spec_Sum.f
  exact sum_l0 l hl l.length k 0 _ (by omega) (by omega)
def lowFive (x i : Int) : Int := Go.bits .and .u64 (shr .u64 x i) 31
theorem lowFive_range (x i : Int) : 0 ≤ lowFive x i ∧ lowFive x i < 32 := by
  unfold lowFive Go.bits
  show 0 ≤ IntKind.u64.wrap (((BitVec.ofInt 64 (shr .u64 x i)) &&& (BitVec.ofInt 64 31)).toNat : Int) ∧ IntKind.u64.wrap (((BitVec.ofInt 64 (shr .u64 x i)) &&& (BitVec.ofInt 64 31)).toNat : Int) < 32
  have h : ((BitVec.ofInt 64 (shr .u64 x i)) &&& (BitVec.ofInt 64 31)).toNat ≤ 31 := by
    rw [BitVec.toNat_and]
    exact Nat.and_le_right
  rw [u64_id (by omega) (by omega)]
  omega
def digAt (x : Int) (i : Nat) : Int := bt (⟨#[48, 49, 50, 51, 52, 53, 54, 55, 56, 57, 97, 98, 99, 100, 102, 103, 104, 105, 106, 107, 108, 109, 110, 112, 113, 114, 115, 118, 119, 120, 121, 122]⟩ : ByteArray) (lowFive x (5 * (i : Int)))
theorem impl_Word32_step (k : Nat) (x : Int) (ys : List Int) (i : Nat) (h : i < 13) (hl : ys.length = 13) : impl_Word32.l0 (k + 1) x ys 13 (i : Int) = impl_Word32.l0 k x (ys.set (12 - i) (digAt x i)) 13 ((i + 1 : Nat) : Int) := by
  have hw : wrap64 ((i : Int) + 1) = ((i + 1 : Nat) : Int) := by rw [wrap64_id (by omega) (by omega)]; omega
  have h5 : wrap64 (5 * (i : Int)) = 5 * (i : Int) := wrap64_id (by omega) (by omega)
  have h12 : wrap64 (12 - (i : Int)) = ((12 - i : Nat) : Int) := by rw [wrap64_id (by omega) (by omega)]; omega
  have hr := lowFive_range x (5 * (i : Int))
  rw [impl_Word32.l0, if_pos (by omega), hw, h5, h12]
  change (if _ then if 0 ≤ lowFive x (5 * (i : Int)) then if lowFive x (5 * (i : Int)) < 32 then _ else _ else _ else _) = _
  rw [if_pos (by omega), if_pos hr.1, if_pos hr.2, if_pos (by omega), if_pos (by rw [hl]; omega)]
  rfl
theorem spec_Word32_step (k : Nat) (x : Int) (ys : List Int) (i : Nat) (h : i < 13) (hl : ys.length < 100) : spec_Word32.l0 (k + 1) x ys (i : Int) = spec_Word32.l0 k x (ys ++ [digAt x i]) ((i : Int) - 1) := by
  have hw : wrap64 ((i : Int) - 1) = (i : Int) - 1 := wrap64_id (by omega) (by omega)
  have h5 : IntKind.u64.wrap (wrap64 (5 * (i : Int))) = 5 * (i : Int) := by rw [wrap64_id (by omega) (by omega), u64_id (by omega) (by omega)]
  have hr := lowFive_range x (5 * (i : Int))
  rw [spec_Word32.l0, if_pos (by omega), hw, h5]
  change (if _ then if 0 ≤ lowFive x (5 * (i : Int)) then if lowFive x (5 * (i : Int)) < 32 then _ else _ else _ else _) = _
  rw [if_pos (by omega), if_pos hr.1, if_pos hr.2, if_pos (by omega)]
  rfl
theorem spec_Word32_run : ∀ (n k : Nat) (x : Int) (ys : List Int), n ≤ 13 → n + 1 ≤ k → ys.length + n < 100 → spec_Word32.l0 k x ys ((n : Int) - 1) = some (strOfNums (ys ++ ((List.range n).map (digAt x)).reverse)) := by
  intro n
  induction n with
  | zero =>
    intro k x ys _ hk hl
    obtain ⟨k, rfl⟩ : ∃ k', k = k' + 1 := ⟨k - 1, by omega⟩
    rw [spec_Word32.l0, if_neg (by omega)]
    simp
  | succ n ih =>
    intro k x ys hn hk hl
    obtain ⟨k, rfl⟩ : ∃ k', k = k' + 1 := ⟨k - 1, by omega⟩
    have e : ((n + 1 : Nat) : Int) - 1 = (n : Int) := by omega
    rw [e, spec_Word32_step k x ys n (by omega) (by omega), ih k x _ (by omega) (by omega) (by simp; omega), List.range_succ]
    simp
theorem impl_Word32_run : ∀ (n k : Nat) (x : Int) (i : Nat), i + n = 13 → n + 1 ≤ k →
    impl_Word32.l0 k x (List.replicate n 0 ++ ((List.range i).map (digAt x)).reverse) 13 (i : Int) = some (strOfNums ((List.range 13).map (digAt x)).reverse) := by
  intro n
  induction n with
  | zero =>
    intro k x i hi hk
    obtain ⟨k, rfl⟩ : ∃ k', k = k' + 1 := ⟨k - 1, by omega⟩
    obtain rfl : i = 13 := by omega
    rw [impl_Word32.l0, if_neg (by omega)]
    simp
  | succ n ih =>
    intro k x i hi hk
    obtain ⟨k, rfl⟩ : ∃ k', k = k' + 1 := ⟨k - 1, by omega⟩
    rw [impl_Word32_step k x _ i (by omega) (by simp; omega)]
    have e : (List.replicate (n + 1) (0 : Int) ++ ((List.range i).map (digAt x)).reverse).set (12 - i) (digAt x i) = List.replicate n 0 ++ ((List.range (i + 1)).map (digAt x)).reverse := by
      rw [List.range_succ, show 12 - i = n by omega, List.replicate_succ', List.append_assoc, List.set_append_right _ _ (by simp)]
      simp
    rw [e]
    exact ih k x (i + 1) (by omega) (by omega)
theorem word_both (x : Int) (k : Nat) (hk : 20 ≤ k) : ∃ r, impl_Word32.f k x = some r ∧ spec_Word32.f k x = some r := by
  have h1 := spec_Word32_run 13 k x [] (by omega) (by omega) (by simp)
  have h2 := impl_Word32_run 13 k x 0 (by omega) (by omega)
  refine ⟨strOfNums ((List.range 13).map (digAt x)).reverse, ?_, ?_⟩
  · unfold impl_Word32.f
    rw [if_pos (by omega), Option.bind_some, List.length_replicate]
    simpa using h2
  · unfold spec_Word32.f
    simpa using h1
end Go.Proofs.YtjnmcgeahomkeaaDoor.P
end

section
set_option linter.unusedVariables false
set_option linter.unusedSimpArgs false
namespace Go.Proofs.YtjnmcgeahomkeaaDoor.P
open Go.RowKit Go.Proofs.YtjnmcgeahomkeaaDoorW.PrintWords Go.Proofs.YtjnmcgeahomkeaaDoorW.PrintLast Go.Proofs.YtjnmcgeahomkeaaDoorM
def inB (l : List Int) : Prop := ∀ x ∈ l, 0 ≤ x ∧ x < 256
theorem strOf_bs (l : List Int) : bs (strOfNums l) = l.map fun n => UInt8.ofNat n.toNat := rfl
theorem strOf_size (l : List Int) : (strOfNums l).size = l.length := by rw [← bs_length, strOf_bs, List.length_map]
theorem u8_back {x : Int} (h : 0 ≤ x ∧ x < 256) : ((UInt8.ofNat x.toNat).toNat : Int) = x := by
  rw [UInt8.toNat_ofNat']
  have : x.toNat < 256 := by omega
  rw [Nat.mod_eq_of_lt (by simpa using this)]
  omega
theorem rd_at (l : List Int) (i : Nat) (h : i < l.length) : rd l (i : Int) = l[i] := by simp [rd, List.getD_eq_getElem?_getD, List.getElem?_eq_getElem h]
theorem rd_in {l : List Int} (hb : inB l) {i : Nat} (h : i < l.length) : 0 ≤ rd l (i : Int) ∧ rd l (i : Int) < 256 := by
  rw [rd_at l i h]; exact hb _ (List.getElem_mem h)
theorem bt_strOf {l : List Int} (hb : inB l) {i : Nat} (h : i < l.length) : bt (strOfNums l) (i : Int) = rd l (i : Int) := by
  rw [bt_nat _ _ (by rw [strOf_size]; exact h), rd_at l i h]
  simp only [strOf_bs, List.getElem_map]
  exact u8_back (hb _ (List.getElem_mem h))
theorem back_map : ∀ {l : List Int}, inB l → (l.map fun n => UInt8.ofNat n.toNat).map (fun c => (c.toNat : Int)) = l
  | [], _ => rfl
  | x :: l, h => by
    rw [List.map_cons, List.map_cons, back_map (fun y hy => h y (List.mem_cons_of_mem _ hy)), u8_back (h x (List.mem_cons_self ..))]
theorem strOf_inj {a b : List Int} (ha : inB a) (hb : inB b) (h : (strOfNums a).toList = (strOfNums b).toList) : a = b := by
  rw [toList_bs, toList_bs, strOf_bs, strOf_bs] at h
  rw [← back_map ha, ← back_map hb, h]
theorem bytesOf_bs (s : ByteArray) : bytesOf s = (bs s).map fun c => (c.toNat : Int) := rfl
theorem bytesOf_in (s : ByteArray) : inB (bytesOf s) := by
  intro x hx
  rw [bytesOf_bs, List.mem_map] at hx
  obtain ⟨c, _, rfl⟩ := hx
  have := c.toNat_lt
  omega
theorem back_bytes : ∀ l : List UInt8, (l.map fun c => (c.toNat : Int)).map (fun n => UInt8.ofNat n.toNat) = l
  | [] => rfl
  | x :: l => by rw [List.map_cons, List.map_cons, back_bytes l]; congr 1; simp
theorem inB_append {a b : List Int} (ha : inB a) (hb : inB b) : inB (a ++ b) := fun x hx => (List.mem_append.1 hx).elim (ha x) (hb x)
theorem vi_in : ∀ k v, inB (vi k v)
  | 0, _ => by intro x hx; rw [vi] at hx; cases hx
  | k + 1, v => by
    rw [vi]
    split
    · intro x hx
      rcases List.mem_cons.1 hx with rfl | hx
      · omega
      · exact vi_in k _ x hx
    · intro x hx
      rw [List.mem_singleton] at hx
      omega
theorem tx_in (s : ByteArray) : inB (tx s) := inB_append (vi_in _ _) (bytesOf_in s)
theorem kb_in (e : S29) : 0 ≤ kb e ∧ kb e < 256 := by
  unfold kb
  split <;> omega
theorem pk_in (t : List S29) : ∀ n i, inB (pk t n i)
  | 0, i => by intro x hx; rw [pk] at hx; cases hx
  | n + 1, i => by
    rw [pk]
    refine inB_append ?_ (pk_in t n (i + 1))
    intro x hx
    rcases List.mem_cons.1 hx with rfl | hx
    · exact kb_in _
    · exact inB_append (tx_in _) (tx_in _) x hx
theorem packed_in (t : List S29) : inB (packed t) := by
  unfold packed
  refine inB_append (inB_append ?_ (vi_in _ _)) (pk_in _ _ _)
  intro x hx
  simp only [List.mem_cons, List.not_mem_nil, or_false] at hx
  omega
theorem drop_cons {l : List Int} {i : Nat} {x : Int} {r : List Int} (h : l.drop i = x :: r) : i < l.length ∧ rd l (i : Int) = x ∧ l.drop (i + 1) = r := by
  have hi : i < l.length := by
    have := congrArg List.length h
    rw [List.length_drop, List.length_cons] at this
    omega
  rw [List.drop_eq_getElem_cons hi] at h
  injection h with h1 h2
  exact ⟨hi, by rw [rd_at l i hi]; exact h1, h2⟩
theorem drop_app {l a r : List Int} {i : Nat} (h : l.drop i = a ++ r) : l.drop (i + a.length) = r := by
  rw [← List.drop_drop, h, List.drop_left]
theorem p7 (j : Nat) : 2 ^ (7 * (j + 1)) = 2 ^ (7 * j) * 128 := by rw [show 7 * (j + 1) = 7 * j + 7 from rfl, Nat.pow_add]
theorem numL_vi {l : List Int} (hb : inB l) : ∀ (m v n j i k : Nat) (r : List Int), l.drop i = vi m v ++ r → v < 128 ^ m → 0 < m → m + j ≤ 5 → m ≤ k →
    impl_UnpackTree.numL k (strOfNums l) n j i true = some (n + v * 2 ^ (7 * j), i + (vi m v).length, true)
  | 0, _, _, _, _, _, _, _, _, h, _, _ => absurd h (by decide)
  | m + 1, v, n, j, i, k, r, hd, hv, _, hj, hk => by
    obtain ⟨k, rfl⟩ : ∃ k', k = k' + 1 := ⟨k - 1, by omega⟩
    rw [impl_UnpackTree.numL, if_pos rfl, strOf_size]
    rw [vi] at hd ⊢
    by_cases h : 128 ≤ v
    · rw [if_pos h, List.cons_append] at hd
      obtain ⟨hi, hr, hd2⟩ := drop_cons hd
      have hm : 0 < m := by
        rcases Nat.eq_zero_or_pos m with rfl | h0
        · simp at hv; omega
        · exact h0
      rw [if_neg (by omega), if_neg (by omega), bt_strOf hb hi, hr, if_neg (by omega), if_pos h, numL_vi hb m (v / 128) _ (j + 1) (i + 1) k r hd2 (by rw [Nat.pow_succ] at hv; omega) hm (by omega) (by omega), p7]
      congr 2
      · have e1 : (((v % 128 + 128 : Nat) : Int) % 128).toNat = v % 128 := by omega
        rw [e1]
        generalize 2 ^ (7 * j) = p
        have e2 : v / 128 * (p * 128) = (v / 128 * 128) * p := by rw [Nat.mul_comm p 128, ← Nat.mul_assoc]
        rw [e2, Nat.add_assoc, ← Nat.add_mul]
        congr 2
        omega
      · congr 1
        simp only [List.length_cons]
        omega
    · rw [if_neg h, List.singleton_append] at hd
      obtain ⟨hi, hr, hd2⟩ := drop_cons hd
      have e1 : ((v : Int) % 128).toNat = v := by omega
      rw [if_neg (by omega), if_neg (by omega), bt_strOf hb hi, hr, if_pos (by omega), if_neg h, e1]
      rfl
theorem cut_is {l r : List Int} {i : Nat} {p : ByteArray} (h : l.drop i = bytesOf p ++ r) : (strOfNums l).extract i (i + p.size) = p := by
  apply bs_inj
  rw [bs_extract, strOf_bs, ← List.map_drop, h, List.map_append, Nat.add_sub_cancel_left, bytesOf_bs, back_bytes, List.take_left' (bs_length p)]
theorem len_app {l a r : List Int} {i : Nat} (h : l.drop i = a ++ r) (ha : 0 < a.length) : i + a.length ≤ l.length := by
  have := congrArg List.length h
  rw [List.length_drop, List.length_append] at this
  omega
theorem vi_pos (m v : Nat) : 0 < (vi (m + 1) v).length := by
  rw [vi]; split <;> simp
theorem tx_pos (p : ByteArray) : 0 < (tx p).length := by
  have : 0 < (vi 4 p.size).length := vi_pos 3 p.size
  rw [tx, List.length_append]; omega
theorem textL_tx {l : List Int} (hb : inB l) {i : Nat} {p : ByteArray} {r : List Int} (h : l.drop i = tx p ++ r) (hp : p.size ≤ 1048576) :
    impl_UnpackTree.textL (strOfNums l) i true = some (p, i + (tx p).length, true) := by
  have hl := len_app h (tx_pos p)
  have htl : (tx p).length = (vi 4 p.size).length + p.size := by rw [tx, List.length_append, bytesOf_length]
  have h0 : l.drop i = vi 4 p.size ++ (bytesOf p ++ r) := by rw [h, tx, List.append_assoc]
  have h1 := drop_app h0
  unfold impl_UnpackTree.textL
  rw [numL_vi hb 4 p.size 0 0 i 6 _ h0 (by omega) (by decide) (by decide) (by decide), Option.bind_some, if_pos rfl]
  simp only [Nat.zero_add, Nat.mul_zero, Nat.pow_zero, Nat.mul_one]
  rw [strOf_size, if_neg (by omega), cut_is h1, htl]
  refine congrArg some (Prod.ext rfl (Prod.ext ?_ rfl))
  show i + (vi 4 p.size).length + p.size = i + ((vi 4 p.size).length + p.size)
  omega
theorem kb_kind {e : S29} (h : entryOk e = true) : kb e % 16 = e.f1 ∧ (kb e / 16 == 1) = e.f3 := by
  have hk : e.f1 = 1 ∨ e.f1 = 2 ∨ e.f1 = 3 := by
    unfold entryOk at h
    simp only [Bool.and_eq_true] at h
    have h2 := h.2.2
    by_cases h1 : e.f1 = 1
    · exact .inl h1
    · by_cases h3 : e.f1 = 2
      · exact .inr (.inl h3)
      · by_cases h4 : e.f1 = 3
        · exact .inr (.inr h4)
        · rw [if_neg h1, if_neg h3, if_neg h4] at h2; cases h2
  unfold kb
  rcases hk with hk | hk | hk <;> cases h3 : e.f3 <;> rw [hk] <;> decide
theorem unpL_pk {l : List Int} (hb : inB l) (t : List S29) (hok : treeOk t) (hz : ∀ i, (gd t i).f0.size ≤ 1048576 ∧ (gd t i).f2.size ≤ 1048576) : ∀ (n j i q : Nat), l.drop i = pk t n j → j + n = t.length → n < q →
    impl_UnpackTree.unpL q (strOfNums l) i true (t.take j) n = some (some (t, true))
  | 0, j, i, q, hd, hj, hq => by
    obtain ⟨q, rfl⟩ : ∃ q', q = q' + 1 := ⟨q - 1, by omega⟩
    rw [impl_UnpackTree.unpL, if_pos rfl, if_neg (by omega), List.take_of_length_le (by omega)]
  | n + 1, j, i, q, hd, hj, hq => by
    obtain ⟨q, rfl⟩ : ∃ q', q = q' + 1 := ⟨q - 1, by omega⟩
    have hjl : j < t.length := by omega
    have hl := hok.1
    rw [pk, List.cons_append, List.append_assoc] at hd
    obtain ⟨hi, hr, hd2⟩ := drop_cons hd
    have hd3 := drop_app hd2
    have hd4 := drop_app hd3
    have hent : impl_UnpackTree.ent (strOfNums l) i (gd t j).f0 (gd t j).f2 = gd t j := by
      have hk := kb_kind (hok.2 j hjl).1
      unfold impl_UnpackTree.ent
      rw [bt_strOf hb hi, hr, hk.1, hk.2]
    rw [impl_UnpackTree.unpL, if_pos rfl, if_pos (by omega), strOf_size, if_neg (by omega), if_neg (by rw [List.length_take]; omega), textL_tx hb hd2 (hz j).1, Option.bind_some]
    simp only []
    rw [textL_tx hb hd3 (hz j).2, Option.bind_some]
    simp only []
    rw [hent, Nat.add_sub_cancel]
    have e : t.take j ++ [gd t j] = t.take (j + 1) := by rw [gd_get t j hjl, List.take_append_getElem hjl]
    rw [e]
    exact unpL_pk hb t hok hz n (j + 1) _ q hd4 (by omega) (by omega)
theorem numL_some (s : ByteArray) : ∀ (k n j i : Nat) (b : Bool), k + j = 6 → 0 < k → ∃ n' i' b', impl_UnpackTree.numL k s n j i b = some (n', i', b')
  | 0, _, _, _, _, _, h => absurd h (by decide)
  | k + 1, n, j, i, b, hk, _ => by
    rw [impl_UnpackTree.numL]
    split
    · split
      · exact ⟨_, _, _, rfl⟩
      · split
        · exact ⟨_, _, _, rfl⟩
        · split
          · exact ⟨_, _, _, rfl⟩
          · exact numL_some s k _ _ _ _ (by omega) (by omega)
    · exact ⟨_, _, _, rfl⟩
theorem textL_some (s : ByteArray) (i : Nat) (b : Bool) (hi : i ≤ s.size) : ∃ t i' b', impl_UnpackTree.textL s i b = some (t, i', b') ∧ t.size ≤ s.size ∧ i' ≤ s.size := by
  obtain ⟨n, i1, b1, h⟩ := numL_some s 6 0 0 i b rfl (by decide)
  have hle := impl_UnpackTree.numL_le s 6 0 0 i b n i1 b1 hi h
  unfold impl_UnpackTree.textL
  rw [h, Option.bind_some]
  cases b1 with
  | false => exact ⟨_, _, _, if_neg (show ¬ (false = true) by decide), Nat.zero_le _, hle⟩
  | true =>
    simp only [if_true]
    by_cases hlt : s.size < n + i1
    · exact ⟨_, _, _, if_pos hlt, Nat.zero_le _, hle⟩
    · refine ⟨_, _, _, if_neg hlt, ?_, by omega⟩
      rw [ByteArray.size_extract]
      omega
def smalls (m : Nat) (t : List S29) : Prop := ∀ e ∈ t, e.f0.size ≤ m ∧ e.f2.size ≤ m
theorem smalls_gd {t : List S29} (h : smalls 1048576 t) : ∀ i, (gd t i).f0.size ≤ 1048576 ∧ (gd t i).f2.size ≤ 1048576 := fun i => by
  by_cases hi : i < t.length
  · exact h _ (gd_mem t i hi)
  · have : gd t i = z29 := by simp [gd, List.getD_eq_getElem?_getD, List.getElem?_eq_none (by omega : t.length ≤ i)]
    rw [this]
    decide
theorem unpL_some (s : ByteArray) : ∀ (q i : Nat) (b : Bool) (t : List S29) (n : Nat), 503 ≤ q + t.length → t.length ≤ 501 → i ≤ s.size → smalls s.size t →
    ∃ o, impl_UnpackTree.unpL q s i b t n = some o ∧ ∀ p, o = some p → smalls s.size p.1
  | 0, _, _, _, _, h, h2, _, _ => by omega
  | q + 1, i, b, t, n, h, h2, hi, hs => by
    rw [impl_UnpackTree.unpL]
    split
    · split
      · split
        · exact ⟨_, rfl, fun p e => by cases e⟩
        · split
          · exact ⟨_, rfl, fun p e => by cases e⟩
          · obtain ⟨p, i1, b1, h1, h3, h4⟩ := textL_some s (i + 1) b (by omega)
            obtain ⟨d, i2, b2, h5, h6, h7⟩ := textL_some s i1 b1 h4
            rw [h1, Option.bind_some]
            simp only []
            rw [h5, Option.bind_some]
            simp only []
            refine unpL_some s q i2 b2 _ (n - 1) (by rw [List.length_append]; simp; omega) (by rw [List.length_append]; simp; omega) h7 ?_
            intro e he
            rcases List.mem_append.1 he with he | he
            · exact hs e he
            · rw [List.mem_singleton] at he
              subst he
              exact ⟨h3, h6⟩
      · exact ⟨_, rfl, fun p e => by injection e with e; subst e; exact hs⟩
    · exact ⟨_, rfl, fun p e => by injection e with e; subst e; exact hs⟩
def isTree (t : List S29) (l : List Int) : Prop := treeOk t ∧ smalls 1048576 t ∧ packed t = l
theorem head_is {l : List Int} {t : List S29} (h : packed t = l) : l.drop 4 = vi 4 t.length ++ pk t t.length 0 ∧ l.take 4 = [76, 65, 82, 49] ∧ 4 ≤ l.length := by
  subst h
  unfold packed
  refine ⟨?_, ?_, by simp⟩
  · simp
  · simp
theorem prefix_is {l : List Int} (h : l.take 4 = [76, 65, 82, 49]) : Lib.hasPrefix (strOfNums l).data.toList [76, 65, 82, 49] = true := by
  have e : l = [76, 65, 82, 49] ++ l.drop 4 := by rw [← h, List.take_append_drop]
  unfold Lib.hasPrefix
  rw [List.isPrefixOf_iff_prefix]
  show [76, 65, 82, 49] <+: bs (strOfNums l)
  rw [strOf_bs, e, List.map_append]
  exact ⟨_, rfl⟩
theorem impl_unpacks {l : List Int} {t : List S29} (h : isTree t l) (hb : inB l) (hl : l.length ≤ 1099511627776) (k : Nat) (hk : 2110000 ≤ k) : impl_UnpackTree.f k l = some (t, true) := by
  obtain ⟨hok, hsm, hp⟩ := h
  have hz := smalls_gd hsm
  have h500 := hok.1
  obtain ⟨h4, htk, _⟩ := head_is hp
  have h5 := drop_app h4
  unfold impl_UnpackTree.f
  rw [if_pos (by omega), if_pos (prefix_is htk), numL_vi hb 4 t.length 0 0 4 6 _ h4 (by omega) (by decide) (by decide) (by decide), Option.bind_some]
  simp only [Nat.zero_add, Nat.mul_zero, Nat.pow_zero, Nat.mul_one]
  have hu := unpL_pk hb t hok hz t.length 0 _ 600 h5 (by omega) (by omega)
  rw [List.take_zero] at hu
  rw [hu, Option.bind_some]
  simp only [if_true]
  obtain ⟨b1, hi1, hi2⟩ := impl_TreeOk_eq t (fun i => (hz i).1) k (by omega)
  rw [hi1, Option.bind_some, if_pos (hi2.2 hok)]
  rcases pack_both t hz k hk with ⟨_, h1, _⟩ | ⟨h0, _, _⟩
  · rw [h1, Option.bind_some, if_pos (by rw [hp])]
  · exact absurd hok h0
theorem impl_tells {l : List Int} (hb : inB l) (hl : l.length ≤ 1048576) (k : Nat) (hk : 2110000 ≤ k) : impl_UnpackTree.f k l = some ([], false) ∨ ∃ t, impl_UnpackTree.f k l = some (t, true) ∧ isTree t l := by
  unfold impl_UnpackTree.f
  rw [if_pos (by omega)]
  by_cases hp : Lib.hasPrefix (strOfNums l).data.toList [76, 65, 82, 49] = true
  case neg => rw [if_neg hp]; exact .inl rfl
  rw [if_pos hp]
  have h4 : 4 ≤ (strOfNums l).size := by
    unfold Lib.hasPrefix at hp
    rw [List.isPrefixOf_iff_prefix] at hp
    have := hp.length_le
    rw [data_length] at this
    exact this
  obtain ⟨n, i, b, h1⟩ := numL_some (strOfNums l) 6 0 0 4 true rfl (by decide)
  have hi := impl_UnpackTree.numL_le _ 6 0 0 4 true n i b h4 h1
  obtain ⟨o, h2, h3⟩ := unpL_some (strOfNums l) 600 i b [] n (by simp) (by simp) hi (fun e he => by cases he)
  rw [h1, Option.bind_some]
  simp only []
  rw [h2, Option.bind_some]
  cases o with
  | none => exact .inl rfl
  | some q =>
    obtain ⟨t, b⟩ := q
    have hsm : smalls 1048576 t := fun e he => by
      have := h3 _ rfl e he
      rw [strOf_size] at this
      omega
    have hz := smalls_gd hsm
    cases b with
    | false => exact .inl rfl
    | true =>
      simp only [if_true]
      obtain ⟨b1, hi1, hi2⟩ := impl_TreeOk_eq t (fun i => (hz i).1) k (by omega)
      rw [hi1, Option.bind_some]
      by_cases hok : treeOk t
      case neg => rw [if_neg (fun h => hok (hi2.1 h))]; exact .inl rfl
      rw [if_pos (hi2.2 hok)]
      rcases pack_both t hz k hk with ⟨_, h5, _⟩ | ⟨h0, _, _⟩
      · rw [h5, Option.bind_some]
        by_cases he : (strOfNums (packed t)).toList = (strOfNums l).toList
        · rw [if_pos he]
          exact .inr ⟨t, rfl, hok, hsm, strOf_inj (packed_in t) hb he⟩
        · rw [if_neg he]; exact .inl rfl
      · exact absurd hok h0
end Go.Proofs.YtjnmcgeahomkeaaDoor.P
end

section
set_option linter.unusedVariables false
set_option linter.unusedSimpArgs false
namespace Go.Proofs.YtjnmcgeahomkeaaDoor.P
open Go.RowKit Go.Proofs.YtjnmcgeahomkeaaDoorW.PrintWords Go.Proofs.YtjnmcgeahomkeaaDoorW.PrintLast Go.Proofs.YtjnmcgeahomkeaaDoorM
theorem spec_Word32_size (x : Int) (k : Nat) (hk : 20 ≤ k) : ∃ r, spec_Word32.f k x = some r ∧ r.size = 13 := by
  have h1 := spec_Word32_run 13 k x [] (by omega) (by omega) (by simp)
  refine ⟨strOfNums ((List.range 13).map (digAt x)).reverse, ?_, by rw [strOf_size]; simp⟩
  unfold spec_Word32.f
  simpa using h1
theorem l1Below_any (l : List Int) (i h n : Int) (hc : cur l i) (h1 : n ≤ 256) : ∃ b i' h', spec_l1Below.f l i h n = some (b, i', h') ∧ 0 ≤ b ∧ (0 < n → b < n) ∧ cur l i' := by
  by_cases h0 : 0 < n
  · obtain ⟨b, i', h', e, a1, a2, a3⟩ := l1Below_eq l i h n hc h0 h1
    exact ⟨b, i', h', e, a1, fun _ => a2, a3⟩
  · exact ⟨0, i, h, by unfold spec_l1Below.f; rw [if_pos (by omega)], by omega, fun h2 => absurd h2 h0, hc⟩
theorem l1Below_all (l : List Int) (i h n : Int) (hc : cur l i) : ∃ b i' h', spec_l1Below.f l i h n = some (b, i', h') ∧ 0 ≤ b ∧ (0 < n → b < n) ∧ cur l i' := by
  by_cases h1 : n ≤ 256
  · exact l1Below_any l i h n hc h1
  · obtain ⟨b1, i1, h1', e1, x1, y1, c1⟩ := l1Byte_eq l i h hc
    obtain ⟨b2, i2, h2', e2, x2, y2, c2⟩ := l1Byte_eq l i1 h1' c1
    obtain ⟨b3, i3, h3', e3, x3, y3, c3⟩ := l1Byte_eq l i2 h2' c2
    obtain ⟨b4, i4, h4', e4, x4, y4, c4⟩ := l1Byte_eq l i3 h3' c3
    unfold spec_l1Below.f
    rw [if_neg (by omega), if_neg h1, e1, Option.bind_some, e2, Option.bind_some, e3, Option.bind_some, e4, Option.bind_some, if_neg (by omega)]
    refine ⟨_, _, _, rfl, ?_, fun _ => Int.tmod_lt_of_pos _ (by omega), c4⟩
    apply Int.tmod_nonneg
    show 0 ≤ wrap64 (wrap64 (wrap64 (wrap64 (b1 * 16777216) + wrap64 (b2 * 65536)) + wrap64 (b3 * 256)) + b4)
    rw [wrap64_id (by omega : -9223372036854775808 ≤ b1 * 16777216) (by omega), wrap64_id (by omega : -9223372036854775808 ≤ b2 * 65536) (by omega), wrap64_id (by omega : -9223372036854775808 ≤ b3 * 256) (by omega),
      wrap64_id (by omega : -9223372036854775808 ≤ b1 * 16777216 + b2 * 65536) (by omega), wrap64_id (by omega : -9223372036854775808 ≤ b1 * 16777216 + b2 * 65536 + b3 * 256) (by omega), wrap64_id (by omega) (by omega)]
    omega
theorem rdOf_mem {xs : List ByteArray} {b : Int} (h0 : 0 ≤ b) (h1 : b < (xs.length : Int)) : rdOf ByteArray.empty xs b ∈ xs := by
  unfold rdOf
  rw [List.getD_eq_getElem?_getD, List.getElem?_eq_getElem (by omega), Option.getD_some]
  exact List.getElem_mem _
theorem DrawPath_tot (l : List Int) (i h : Int) (hc : cur l i) : ∃ p i' h', spec_l10DrawPath.f l i h = some (p, i', h') ∧ p.size ≤ 100 ∧ cur l i' := by
  unfold spec_l10DrawPath.f
  rw [Option.bind_some]
  obtain ⟨b, i', h', e, h0, h1, hc'⟩ := l1Below_eq l i h 10 hc (by decide) (by decide)
  rw [e, Option.bind_some, if_pos h0, if_pos (by exact h1)]
  refine ⟨_, _, _, rfl, ?_, hc'⟩
  have hm := rdOf_mem (xs := [(⟨#[98, 105, 110]⟩ : ByteArray), (⟨#[98, 105, 110, 47, 97]⟩ : ByteArray), (⟨#[98, 105, 110, 47, 98]⟩ : ByteArray), (⟨#[108, 105, 98]⟩ : ByteArray), (⟨#[108, 105, 98, 47, 120, 46, 115, 111]⟩ : ByteArray), (⟨#[100, 111, 99]⟩ : ByteArray), (⟨#[100, 111, 99, 47, 97]⟩ : ByteArray), (⟨#[100, 111, 99, 47, 97, 47, 98]⟩ : ByteArray), (⟨#[102]⟩ : ByteArray), (⟨#[103, 45, 49]⟩ : ByteArray)]) (b := b) h0 h1
  exact (by decide : ∀ x ∈ [(⟨#[98, 105, 110]⟩ : ByteArray), (⟨#[98, 105, 110, 47, 97]⟩ : ByteArray), (⟨#[98, 105, 110, 47, 98]⟩ : ByteArray), (⟨#[108, 105, 98]⟩ : ByteArray), (⟨#[108, 105, 98, 47, 120, 46, 115, 111]⟩ : ByteArray), (⟨#[100, 111, 99]⟩ : ByteArray), (⟨#[100, 111, 99, 47, 97]⟩ : ByteArray), (⟨#[100, 111, 99, 47, 97, 47, 98]⟩ : ByteArray), (⟨#[102]⟩ : ByteArray), (⟨#[103, 45, 49]⟩ : ByteArray)], x.size ≤ 100) _ hm
theorem Some_l0 (l : List Int) (n : Nat) (hn : n ≤ 1000) : ∀ (m k i : Nat) (acc : List Int) (p h : Int), m + 1 ≤ k → i + m = n → acc.length = i → cur l p → ∃ r p' h', spec_l1Some.l0 k (n : Int) acc (i : Int) l p h = some (r, p', h') ∧ r.length = n ∧ cur l p' := by
  intro m
  induction m with
  | zero =>
    intro k i acc p h hk hi ha hc
    obtain ⟨k, rfl⟩ : ∃ k', k = k' + 1 := ⟨k - 1, by omega⟩
    rw [spec_l1Some.l0, if_neg (by omega)]
    exact ⟨_, _, _, rfl, by omega, hc⟩
  | succ m ih =>
    intro k i acc p h hk hi ha hc
    obtain ⟨k, rfl⟩ : ∃ k', k = k' + 1 := ⟨k - 1, by omega⟩
    have hw : wrap64 ((i : Int) + 1) = ((i + 1 : Nat) : Int) := by rw [wrap64_id (by omega) (by omega)]; omega
    obtain ⟨b, p', h', e, _, _, hc'⟩ := l1Below_eq l p h 256 hc (by decide) (by decide)
    rw [spec_l1Some.l0, if_pos (by omega), e, Option.bind_some, if_pos (by omega), hw]
    exact ih k (i + 1) _ _ _ (by omega) (by omega) (by rw [List.length_append, List.length_singleton, ha]) hc'
theorem Some_tot (l : List Int) (i h : Int) (n : Int) (h0 : 0 ≤ n) (h1 : n ≤ 1000) (hc : cur l i) (k : Nat) (hk : 1001 ≤ k) : ∃ r i' h', spec_l1Some.f k l i h n = some (r, i', h') ∧ r.length ≤ 1000 ∧ cur l i' := by
  obtain ⟨m, rfl⟩ : ∃ m : Nat, n = m := ⟨n.toNat, by omega⟩
  obtain ⟨r, p', h', e, hl, hc'⟩ := Some_l0 l m (by omega) m k 0 [] i h (by omega) (by omega) rfl hc
  exact ⟨r, p', h', e, by omega, hc'⟩
theorem Address_tot (a b : ByteArray) (c : List Int) (ha : a.size ≤ 1000) (hb : b.size ≤ 1000) (hc : c.length ≤ 1000) (k : Nat) (hk : 5000 ≤ k) : ∃ r, spec_l1Address.f k a b c = some r ∧ r.size ≤ 2000 := by
  unfold spec_l1Address.f
  rw [if_pos ⟨by omega, by omega, by omega⟩]
  have h1 : (bytesOf (spec_l1Address.pre a b) ++ c).length ≤ 4000 := by
    have hx : (spec_l1Address.pre a b).size = a.size + 1 + b.size + 1 := by
      unfold spec_l1Address.pre
      simp only [ByteArray.size_append]
      rfl
    rw [List.length_append, bytesOf_bs, List.length_map, bs_length, hx]
    omega
  obtain ⟨s, _, hs⟩ := sum_both (bytesOf (spec_l1Address.pre a b) ++ c) (by omega) k (by omega)
  obtain ⟨u, hu, hz⟩ := spec_Word32_size s k (by omega)
  rw [hs, Option.bind_some, hu, Option.bind_some, if_pos (by omega)]
  refine ⟨_, rfl, ?_⟩
  simp only [ByteArray.size_append]
  have : (⟨#[45]⟩ : ByteArray).size = 1 := rfl
  omega
theorem DrawAddress_tot (l : List Int) (i h : Int) (hc : cur l i) (k : Nat) (hk : 5000 ≤ k) : ∃ p i' h', spec_l10DrawAddress.f k l i h = some (p, i', h') ∧ p.size ≤ 2000 ∧ cur l i' := by
  unfold spec_l10DrawAddress.f
  rw [Option.bind_some]
  obtain ⟨b, i', h', e, h0, h1, hc'⟩ := l1Below_eq l i h 3 hc (by decide) (by decide)
  rw [e, Option.bind_some, if_pos h0, if_pos (by exact h1)]
  obtain ⟨b2, i2, h2, e2, _, _, hc2⟩ := l1Below_eq l i' h' 4 hc' (by decide) (by decide)
  rw [e2, Option.bind_some]
  have hm := rdOf_mem (xs := [(⟨#[97]⟩ : ByteArray), (⟨#[98]⟩ : ByteArray), (⟨#[99]⟩ : ByteArray)]) (b := b) h0 h1
  obtain ⟨r, hr, hz⟩ := Address_tot (⟨#[111, 117, 116]⟩ : ByteArray) _ [b2 % 256] (by decide) ((by decide : ∀ x ∈ [(⟨#[97]⟩ : ByteArray), (⟨#[98]⟩ : ByteArray), (⟨#[99]⟩ : ByteArray)], x.size ≤ 1000) _ hm) (by simp) k hk
  rw [hr, Option.bind_some]
  exact ⟨_, _, _, rfl, hz, hc2⟩
theorem DrawData_j0 (l : List Int) (i h : Int) (hc : cur l i) (s : ByteArray) (hs : s.size ≤ 5000) (k : Nat) (hk : 1 ≤ k) : ∃ p i' h', spec_l10DrawData.j0 k s l i h = some (p, i', h') ∧ p.size ≤ 25000 ∧ cur l i' := by
  obtain ⟨k, rfl⟩ : ∃ k', k = k' + 1 := ⟨k - 1, by omega⟩
  rw [spec_l10DrawData.j0]
  obtain ⟨b, i1, h1, e1, c1⟩ := l1Once_eq l i h 100 hc (by decide) (by decide)
  rw [e1, Option.bind_some]
  cases b with
  | false => rw [if_neg (by exact Bool.false_ne_true)]; exact ⟨_, _, _, rfl, by omega, c1⟩
  | true =>
    rw [if_pos rfl]
    obtain ⟨b2, i2, h2, e2, x2, y2, c2⟩ := l1Below_eq l i1 h1 2 c1 (by decide) (by decide)
    have hw : wrap64 (20000 + b2) = 20000 + b2 := wrap64_id (by omega) (by omega)
    rw [e2, Option.bind_some, hw, if_pos (by omega), if_pos (by omega)]
    refine ⟨_, _, _, rfl, ?_, c2⟩
    rw [strOf_size, List.length_replicate]
    omega
theorem DrawData_tot (l : List Int) (i h : Int) (hc : cur l i) (k : Nat) (hk : 5001 ≤ k) : ∃ p i' h', spec_l10DrawData.f k l i h = some (p, i', h') ∧ p.size ≤ 25000 ∧ cur l i' := by
  unfold spec_l10DrawData.f
  obtain ⟨b, i1, h1, e1, x1, y1, c1⟩ := l1Below_eq l i h 6 hc (by decide) (by decide)
  rw [e1, Option.bind_some]
  obtain ⟨r, i2, h2, e2, z2, c2⟩ := Some_tot l i1 h1 b x1 (by omega) c1 k (by omega)
  rw [e2, Option.bind_some]
  obtain ⟨b3, i3, h3, e3, c3⟩ := l1Once_eq l i2 h2 3 c2 (by decide) (by decide)
  rw [e3, Option.bind_some]
  have hz : (strOfNums r).size ≤ 1000 := by rw [strOf_size]; exact z2
  cases b3 with
  | false => rw [if_neg (by exact Bool.false_ne_true)]; exact DrawData_j0 l i3 h3 c3 _ (by show (strOfNums r).size ≤ 5000; omega) k (by omega)
  | true =>
    rw [if_pos rfl]
    obtain ⟨a, i4, h4, e4, z4, c4⟩ := DrawAddress_tot l i3 h3 c3 k (by omega)
    have h2x : (⟨#[47, 120]⟩ : ByteArray).size = 2 := rfl
    rw [e4, Option.bind_some, if_pos (by show (strOfNums r).size + a.size ≤ _; omega), if_pos (by simp only [ByteArray.size_append]; omega)]
    exact DrawData_j0 l i4 h4 c4 _ (by simp only [ByteArray.size_append]; omega) k (by omega)
theorem DrawEntry_j2 (l : List Int) (i h : Int) (hc : cur l i) (p d : ByteArray) (n : Int) (x : Bool) (hp : p.size ≤ 100) (hd : d.size ≤ 30000) (k : Nat) (hk : 1 ≤ k) :
    ∃ p' n' d' x' i' h', spec_l10DrawEntry.j2 k l i h p n d x = some (p', n', d', x', i', h') ∧ p'.size ≤ 100 ∧ d'.size ≤ 30000 ∧ cur l i' := by
  obtain ⟨k, rfl⟩ : ∃ k', k = k' + 1 := ⟨k - 1, by omega⟩
  rw [spec_l10DrawEntry.j2]
  obtain ⟨b, i1, h1, e1, c1⟩ := l1Once_eq l i h 30 hc (by decide) (by decide)
  rw [e1, Option.bind_some]
  cases b with
  | false => rw [if_neg (by exact Bool.false_ne_true)]; exact ⟨_, _, _, _, _, _, rfl, hp, hd, c1⟩
  | true =>
    rw [if_pos rfl]
    obtain ⟨b2, i2, h2, e2, x2, y2, c2⟩ := l1Below_eq l i1 h1 5 c1 (by decide) (by decide)
    rw [e2, Option.bind_some]
    simp only []
    by_cases q0 : b2 = 0
    · rw [if_pos q0, Option.bind_some]
      obtain ⟨b3, i3, h3, e3, x3, y3, c3⟩ := l1Below_eq l i2 h2 6 c2 (by decide) (by decide)
      rw [e3, Option.bind_some, if_pos x3, if_pos (by exact y3)]
      have hm := rdOf_mem (xs := [(⟨#[]⟩ : ByteArray), (⟨#[47, 97]⟩ : ByteArray), (⟨#[97, 47]⟩ : ByteArray), (⟨#[97, 47, 47, 98]⟩ : ByteArray), (⟨#[46, 120]⟩ : ByteArray), (⟨#[97, 47, 98, 47, 99, 47, 100, 47, 101, 47, 102, 47, 103, 47, 104, 47, 105]⟩ : ByteArray)]) (b := b3) x3 y3
      exact ⟨_, _, _, _, _, _, rfl, (by decide : ∀ x ∈ [(⟨#[]⟩ : ByteArray), (⟨#[47, 97]⟩ : ByteArray), (⟨#[97, 47]⟩ : ByteArray), (⟨#[97, 47, 47, 98]⟩ : ByteArray), (⟨#[46, 120]⟩ : ByteArray), (⟨#[97, 47, 98, 47, 99, 47, 100, 47, 101, 47, 102, 47, 103, 47, 104, 47, 105]⟩ : ByteArray)], x.size ≤ 100) _ hm, hd, c3⟩
    · rw [if_neg q0]
      by_cases q1 : b2 = 1
      · rw [if_pos q1, Option.bind_some]
        obtain ⟨b3, i3, h3, e3, x3, y3, c3⟩ := l1Below_eq l i2 h2 2 c2 (by decide) (by decide)
        rw [e3, Option.bind_some, if_pos x3, if_pos (by exact y3)]
        exact ⟨_, _, _, _, _, _, rfl, hp, hd, c3⟩
      · rw [if_neg q1]
        by_cases q2 : b2 = 2
        · rw [if_pos q2]; exact ⟨_, _, _, _, _, _, rfl, hp, hd, c2⟩
        · rw [if_neg q2]
          by_cases q3 : b2 = 3
          · rw [if_pos q3]; exact ⟨_, _, _, _, _, _, rfl, hp, by decide, c2⟩
          · rw [if_neg q3]
            by_cases q4 : b2 = 4
            · rw [if_pos q4, if_pos (by decide)]; exact ⟨_, _, _, _, _, _, rfl, hp, by rw [strOf_size, List.length_replicate]; omega, c2⟩
            · rw [if_neg q4]; exact ⟨_, _, _, _, _, _, rfl, hp, hd, c2⟩
theorem DrawEntry_j1 (l : List Int) (i h : Int) (hc : cur l i) (p d : ByteArray) (n : Int) (x : Bool) (hp : p.size ≤ 100) (hd : d.size ≤ 30000) (k : Nat) (hk : 5003 ≤ k) :
    ∃ p' n' d' x' i' h', spec_l10DrawEntry.j1 k l i h p n d x = some (p', n', d', x', i', h') ∧ p'.size ≤ 100 ∧ d'.size ≤ 30000 ∧ cur l i' := by
  obtain ⟨k, rfl⟩ : ∃ k', k = k' + 1 := ⟨k - 1, by omega⟩
  rw [spec_l10DrawEntry.j1]
  by_cases q : n = 1
  · rw [if_pos q]; exact DrawEntry_j2 l i h hc p d n x hp hd k (by omega)
  · rw [if_neg q]
    obtain ⟨s, i1, h1, e1, z1, c1⟩ := DrawData_tot l i h hc k (by omega)
    have h1x : (⟨#[100]⟩ : ByteArray).size = 1 := rfl
    rw [e1, Option.bind_some, if_pos (by show s.size + 1 ≤ _; omega)]
    have hs : (s ++ (⟨#[100]⟩ : ByteArray)).size ≤ 30000 := by rw [ByteArray.size_append]; omega
    by_cases q2 : n = 2
    · rw [if_pos q2]
      obtain ⟨b, i2, h2, e2, c2⟩ := l1Once_eq l i1 h1 3 c1 (by decide) (by decide)
      rw [e2, Option.bind_some]
      exact DrawEntry_j2 l i2 h2 c2 p _ n b hp hs k (by omega)
    · rw [if_neg q2]; exact DrawEntry_j2 l i1 h1 c1 p _ n false hp hs k (by omega)
theorem DrawEntry_tot (l : List Int) (i h : Int) (hc : cur l i) (k : Nat) (hk : 5004 ≤ k) :
    ∃ p' n' d' x' i' h', spec_l10DrawEntry.f k l i h = some (p', n', d', x', i', h') ∧ p'.size ≤ 100 ∧ d'.size ≤ 30000 ∧ cur l i' := by
  have hj : ∀ (b : Bool) (i h : Int) (p : ByteArray) (n : Int), cur l i → p.size ≤ 100 → ∃ p' n' d' x' i' h', spec_l10DrawEntry.j0 k b l i h p n (⟨#[]⟩ : ByteArray) false = some (p', n', d', x', i', h') ∧ p'.size ≤ 100 ∧ d'.size ≤ 30000 ∧ cur l i' := by
    intro b i h p n hc hp
    obtain ⟨k, rfl⟩ : ∃ k', k = k' + 1 := ⟨k - 1, by omega⟩
    rw [spec_l10DrawEntry.j0]
    split <;> exact DrawEntry_j1 l i h hc p _ _ _ hp (by decide) k (by omega)
  unfold spec_l10DrawEntry.f
  obtain ⟨p, i1, h1, e1, z1, c1⟩ := DrawPath_tot l i h hc
  rw [e1, Option.bind_some]
  obtain ⟨b, i2, h2, e2, x2, y2, c2⟩ := l1Below_eq l i1 h1 3 c1 (by decide) (by decide)
  rw [e2, Option.bind_some]
  simp only []
  split
  · exact hj _ _ _ _ _ c2 z1
  · split
    · exact hj _ _ _ _ _ c2 z1
    · split <;> exact hj _ _ _ _ _ c2 z1
def sm2 (t : List S29) : Prop := ∀ e ∈ t, e.f0.size ≤ 100 ∧ e.f2.size ≤ 30000
def wayT (n : Nat) (t : List S29) : Prop := treeOk t ∧ sm2 t ∧ t.length ≤ n
theorem smalls_putR {t : List S29} {e : S29} (hpw : t.Pairwise lessE) (hz : sm2 t) (he : e.f0.size ≤ 100 ∧ e.f2.size ≤ 30000) : sm2 (putR e t) := fun x hx => by
  rcases (putR_mem e t hpw x).1 hx with rfl | ⟨h, _⟩
  · exact he
  · exact hz x h
theorem Put_tot (t : List S29) (n : Nat) (hn : n ≤ 400) (ht : wayT n t) (p : ByteArray) (c : Int) (d : ByteArray) (x : Bool) (hp : p.size ≤ 100) (hd : d.size ≤ 30000) (k : Nat) (hk : 2200000 ≤ k) :
    ∃ r b, spec_l10Put.f k t p c d x = some (r, b) ∧ wayT (n + 1) r := by
  obtain ⟨hok, hz, hl⟩ := ht
  have hpw := treeOk_pair hok
  have hsm : smallT t := fun i => (smalls_gd (fun e he => ⟨Nat.le_trans (hz e he).1 (by decide), Nat.le_trans (hz e he).2 (by decide)⟩) i).1
  obtain ⟨b, hb1, hb2⟩ := spec_TreeOk_eq t hsm k (by omega)
  have h := spec_PutEntry_eq t ⟨p, c, d, x⟩ hsm (by show p.size ≤ _; omega) k hk
  unfold spec_PutEntry.f at h
  rw [hb1, Option.bind_some, if_pos (hb2.2 hok)] at h
  obtain ⟨⟨r, b'⟩, hq, h⟩ := Option.bind_eq_some_iff.mp h
  refine ⟨r, b', hq, ?_⟩
  have h2 : (r, b') = putOf t ⟨p, c, d, x⟩ := Option.some.inj h
  unfold putOf at h2
  rw [if_pos hok] at h2
  by_cases hp2 : putOk t ⟨p, c, d, x⟩
  · rw [if_pos hp2] at h2
    obtain rfl : r = putR ⟨p, c, d, x⟩ t := congrArg Prod.fst h2
    exact ⟨(putOk_iff hok _).2 hp2, smalls_putR hpw hz ⟨hp, hd⟩, Nat.le_trans (putR_length _ t).2 (by omega)⟩
  · rw [if_neg hp2] at h2
    obtain rfl : r = t := congrArg Prod.fst h2
    exact ⟨hok, hz, by omega⟩
theorem DrawTree_l0 (l : List Int) (n : Nat) (hn : n ≤ 100) : ∀ (m k i : Nat) (t : List S29) (p h : Int), 2 * m + 2200010 ≤ k → i + m = n → wayT (3 * i) t → cur l p →
    ∃ r p' h', spec_l10DrawTree.l0 k (n : Int) t (i : Int) l p h = some (r, p', h') ∧ wayT (3 * n) r ∧ cur l p' := by
  intro m
  induction m with
  | zero =>
    intro k i t p h hk hi ht hc
    obtain ⟨k, rfl⟩ : ∃ k', k = k' + 1 := ⟨k - 1, by omega⟩
    obtain rfl : i = n := by omega
    rw [spec_l10DrawTree.l0, if_neg (by omega)]
    exact ⟨_, _, _, rfl, ht, hc⟩
  | succ m ih =>
    intro k i t p h hk hi ht hc
    obtain ⟨k, rfl⟩ : ∃ k', k = k' + 2 := ⟨k - 2, by omega⟩
    have hw : wrap64 ((i : Int) + 1) = ((i + 1 : Nat) : Int) := by rw [wrap64_id (by omega) (by omega)]; omega
    have up : ∀ {a b : Nat} {t : List S29}, a ≤ b → wayT a t → wayT b t := fun hab h => ⟨h.1, h.2.1, Nat.le_trans h.2.2 hab⟩
    have hj : ∀ (u : ByteArray) (b : Bool) (p h : Int) (e0 : ByteArray) (e1 : Int) (e2 : ByteArray) (e3 : Bool), cur l p → u.size ≤ 100 → e0.size ≤ 100 → e2.size ≤ 30000 →
        ∃ r p' h', spec_l10DrawTree.j1 (k + 1) (n : Int) t (i : Int) u b l p h e0 e1 e2 e3 = some (r, p', h') ∧ wayT (3 * n) r ∧ cur l p' := by
      intro u b p h e0 e1 e2 e3 hc hu h0 h2
      rw [spec_l10DrawTree.j1, hw]
      cases b with
      | false =>
        rw [if_neg (by decide)]
        obtain ⟨r, b', e, hr⟩ := Put_tot t (3 * i) (by omega) ht e0 e1 e2 e3 (by omega) h2 k (by omega)
        rw [e, Option.bind_some]
        exact ih k (i + 1) r p h (by omega) (by omega) (up (by omega) hr) hc
      | true =>
        have hup := spec_l10Up_eq u (by omega) k (by omega)
        rw [if_pos rfl, hup, Option.bind_some]
        have hus : (upOf u).1.size ≤ 100 := by
          unfold upOf
          split
          · decide
          · rw [← bs_length, bs_upto, List.length_take, bs_length]; omega
        split
        · obtain ⟨r, b', e, hr⟩ := Put_tot t (3 * i) (by omega) ht u 1 (⟨#[]⟩ : ByteArray) false (by omega) (by decide) k (by omega)
          rw [e, Option.bind_some]
          obtain ⟨r2, b2, e2', hr2⟩ := Put_tot r (3 * i + 1) (by omega) hr e0 e1 e2 e3 (by omega) h2 k (by omega)
          rw [e2', Option.bind_some]
          exact ih k (i + 1) r2 p h (by omega) (by omega) (up (by omega) hr2) hc
        · rw [Option.bind_some]
          obtain ⟨r, b', e, hr⟩ := Put_tot t (3 * i) (by omega) ht (upOf u).1 1 (⟨#[]⟩ : ByteArray) false hus (by decide) k (by omega)
          rw [e, Option.bind_some]
          obtain ⟨r2, b2, e2', hr2⟩ := Put_tot r (3 * i + 1) (by omega) hr u 1 (⟨#[]⟩ : ByteArray) false (by omega) (by decide) k (by omega)
          rw [e2', Option.bind_some]
          obtain ⟨r3, b3, e3', hr3⟩ := Put_tot r2 (3 * i + 2) (by omega) hr2 e0 e1 e2 e3 (by omega) h2 k (by omega)
          rw [e3', Option.bind_some]
          exact ih k (i + 1) r3 p h (by omega) (by omega) (up (by omega) hr3) hc
    obtain ⟨e0, e1, e2, e3, p1, h1, q, z0, z2, c1⟩ := DrawEntry_tot l p h hc (k + 1) (by omega)
    have hus : (upOf e0).1.size ≤ 100 := by
      unfold upOf
      split
      · decide
      · rw [← bs_length, bs_upto, List.length_take, bs_length]; omega
    rw [spec_l10DrawTree.l0, if_pos (by omega), q, Option.bind_some]
    show ∃ r p' h', ((spec_l10Up.f (k + 1) e0).bind _) = some (r, p', h') ∧ _
    rw [spec_l10Up_eq e0 (by omega) (k + 1) (by omega), Option.bind_some]
    split
    · exact hj _ _ _ _ _ _ _ _ c1 hus z0 z2
    · obtain ⟨f, hf, _⟩ := spec_l10Find_eq t (upOf e0).1 (by have := ht.2.2; omega) (treeOk_risen ht.1) (k + 1) (by have := ht.2.2; omega)
      rw [hf, Option.bind_some]
      split
      · obtain ⟨b3, i3, h3, e3', c3⟩ := l1Once_eq l p1 h1 6 c1 (by decide) (by decide)
        rw [e3', Option.bind_some]
        exact hj _ _ _ _ _ _ _ _ c3 hus z0 z2
      · exact hj _ _ _ _ _ _ _ _ c1 hus z0 z2
theorem DrawTree_tot (l : List Int) (i h n : Int) (h0 : 0 ≤ n) (h1 : n ≤ 100) (hc : cur l i) (k : Nat) (hk : 2200300 ≤ k) : ∃ r i' h', spec_l10DrawTree.f k l i h n = some (r, i', h') ∧ wayT (3 * n.toNat) r ∧ cur l i' := by
  obtain ⟨m, rfl⟩ : ∃ m : Nat, n = m := ⟨n.toNat, by omega⟩
  obtain ⟨r, p', h', e, hl, hc'⟩ := DrawTree_l0 l m (by omega) m k 0 [] i h (by omega) (by omega) ⟨⟨Nat.zero_le _, fun i hi => nomatch hi⟩, (fun e he => nomatch he : sm2 []), Nat.zero_le _⟩ hc
  exact ⟨r, p', h', e, ⟨hl.1, hl.2.1, by have := hl.2.2; rw [Int.toNat_natCast]; exact this⟩, hc'⟩
theorem l2Int_tot : ∀ (m k : Nat) (x : Int) (s : ByteArray), 0 ≤ x → x ≤ 100000000 → x < 10 ^ m → m + 1 ≤ k → s.size + m ≤ 1000 → ∃ r, spec_l2Int.l0 k x s = some r ∧ r.size ≤ s.size + m + 1 := by
  intro m
  induction m with
  | zero =>
    intro k x s h0 hX h1 hk hs
    obtain ⟨k, rfl⟩ : ∃ k', k = k' + 1 := ⟨k - 1, by omega⟩
    have hx : x < 1 := by simpa using h1
    rw [spec_l2Int.l0, if_neg (by omega), Option.bind_some, if_pos (by rw [strOf_size, List.length_singleton]; omega)]
    exact ⟨_, rfl, by rw [ByteArray.size_append, strOf_size, List.length_singleton]; omega⟩
  | succ m ih =>
    intro k x s h0 hX h1 hk hs
    obtain ⟨k, rfl⟩ : ∃ k', k = k' + 1 := ⟨k - 1, by omega⟩
    rw [spec_l2Int.l0]
    by_cases hx : x > 9
    · rw [if_pos hx, Option.bind_some, if_pos (by rw [strOf_size, List.length_singleton]; omega)]
      have hd : x.tdiv 10 = x / 10 := Int.tdiv_eq_ediv_of_nonneg h0
      have hb : x / 10 < 10 ^ m := by
        have : x < 10 ^ m * 10 := by rw [← Int.pow_succ]; exact h1
        omega
      rw [hd, wrap64_id (by omega) (by omega)]
      obtain ⟨r, e, hz⟩ := ih k (x / 10) _ (by omega) (by omega) hb (by omega) (show (strOfNums [wrap64 (48 + Int.tmod x 10) % 256] ++ s).size + m ≤ 1000 by rw [ByteArray.size_append, strOf_size, List.length_singleton]; omega)
      refine ⟨r, e, ?_⟩
      rw [ByteArray.size_append, strOf_size, List.length_singleton] at hz
      omega
    · rw [if_neg hx, Option.bind_some, if_pos (by rw [strOf_size, List.length_singleton]; omega)]
      exact ⟨_, rfl, by rw [ByteArray.size_append, strOf_size, List.length_singleton]; omega⟩
end Go.Proofs.YtjnmcgeahomkeaaDoor.P
end

section
set_option linter.unusedVariables false
set_option linter.unusedSimpArgs false
namespace Go.Proofs.YtjnmcgeahomkeaaDoor.P
open Go.RowKit Go.Proofs.YtjnmcgeahomkeaaDoorW.PrintWords Go.Proofs.YtjnmcgeahomkeaaDoorW.PrintLast Go.Proofs.YtjnmcgeahomkeaaDoorM
def rdN : Nat → List Int → Nat → Nat → Nat → Bool → Nat × Nat × Bool
  | 0, _, _, _, i, _ => (0, i, true)
  | m + 1, l, n, j, i, b => if l.length ≤ i then (0, i, true) else if rd l (i : Int) < 128 then (n + (rd l (i : Int) % 128).toNat * 2 ^ (7 * j), i + 1, b) else rdN m l (n + (rd l (i : Int) % 128).toNat * 2 ^ (7 * j)) (j + 1) (i + 1) b
theorem rd_step (n j : Nat) (c : Int) (hc : 0 ≤ c ∧ c < 256) (hj : j ≤ 3) (hn : n < 2 ^ (7 * j)) :
    wrap64 ((n : Int) + shl .i64 (wrap64 (Go.bits .and .u8 c 127)) ((7 * j : Nat) : Int)) = ((n + (c % 128).toNat * 2 ^ (7 * j) : Nat) : Int) ∧ n + (c % 128).toNat * 2 ^ (7 * j) < 2 ^ (7 * (j + 1)) := by
  have h1 : Go.bits .and .u8 c 127 = c % 128 := bits_mask .u8 8 (by decide) wraps_u8 7 (by decide) c (by omega) (by omega)
  have h2 : wrap64 (c % 128) = c % 128 := wrap64_id (by omega) (by omega)
  obtain ⟨m, hm⟩ : ∃ m : Nat, c % 128 = m := ⟨(c % 128).toNat, by omega⟩
  have hm2 : m < 128 := by omega
  have h3 : shl .i64 (m : Int) ((7 * j : Nat) : Int) = ((m * 2 ^ (7 * j) : Nat) : Int) := by
    show IntKind.i64.wrap ((m : Int) * 2 ^ (min ((7 * j : Nat) : Int).toNat 64)) = _
    have e : min ((7 * j : Nat) : Int).toNat 64 = 7 * j := by rw [Int.toNat_natCast]; omega
    have hp : 2 ^ (7 * j) ≤ 2097152 := Nat.le_trans (Nat.pow_le_pow_right (by decide) (show 7 * j ≤ 21 by omega)) (by decide)
    have hmp : m * 2 ^ (7 * j) ≤ 127 * 2 ^ (7 * j) := Nat.mul_le_mul_right _ (by omega)
    rw [e]
    have e2 : ((m : Int) * 2 ^ (7 * j)) = ((m * 2 ^ (7 * j) : Nat) : Int) := by push_cast; rfl
    rw [e2, i64_w]
    generalize m * 2 ^ (7 * j) = q at hmp ⊢
    generalize 2 ^ (7 * j) = p at hmp hp
    exact wrap64_id (by omega) (by omega)
  rw [h1, h2, hm, h3, Int.toNat_natCast, p7]
  have hp : 2 ^ (7 * j) ≤ 2097152 := Nat.le_trans (Nat.pow_le_pow_right (by decide) (show 7 * j ≤ 21 by omega)) (by decide)
  have hmp : m * 2 ^ (7 * j) ≤ 127 * 2 ^ (7 * j) := Nat.mul_le_mul_right _ (by omega)
  generalize m * 2 ^ (7 * j) = q at hmp ⊢
  generalize 2 ^ (7 * j) = p at hmp hp hn ⊢
  exact ⟨by rw [wrap64_id (by omega) (by omega)]; push_cast; rfl, by omega⟩
theorem l10Read_l0 {l : List Int} (hb : inB l) (hl : l.length ≤ 1099511627776) : ∀ (m j n i k : Nat) (b : Bool), m + j = 4 → n < 2 ^ (7 * j) → m < k → i ≤ l.length →
    spec_l10Read.l0 k (n : Int) ((7 * j : Nat) : Int) l (i : Int) b = some (((rdN m l n j i b).1 : Int), ((rdN m l n j i b).2.1 : Int), (rdN m l n j i b).2.2)
  | 0, j, n, i, k, b, hj, hn, hk, hi => by
    obtain ⟨k, rfl⟩ : ∃ k', k = k' + 1 := ⟨k - 1, by omega⟩
    obtain rfl : j = 4 := by omega
    rw [spec_l10Read.l0, if_neg (by decide)]
    rfl
  | m + 1, j, n, i, k, b, hj, hn, hk, hi => by
    obtain ⟨k, rfl⟩ : ∃ k', k = k' + 1 := ⟨k - 1, by omega⟩
    rw [spec_l10Read.l0, if_pos (by omega), rdN]
    by_cases hend : l.length ≤ i
    · rw [if_pos (by omega), if_pos hend]
      rfl
    · have hin := rd_in hb (show i < l.length by omega)
      have hs := rd_step n j _ hin (by omega) hn
      rw [if_neg (by omega), if_pos (by omega), if_pos (by omega), if_pos (by omega), if_neg hend, hs.1, wrap64_id (by omega) (by omega)]
      by_cases hlt : rd l (i : Int) < 128
      · rw [if_pos hlt, if_pos hlt]
        rfl
      · rw [if_neg hlt, if_neg hlt]
        have e : IntKind.u64.wrap (((7 * j : Nat) : Int) + 7) = ((7 * (j + 1) : Nat) : Int) := by
          have : IntKind.u64.wrap (((7 * j : Nat) : Int) + 7) = (((7 * j : Nat) : Int) + 7) % 18446744073709551616 := rfl
          rw [this]; omega
        rw [e]
        exact l10Read_l0 hb hl m (j + 1) _ (i + 1) k b (by omega) hs.2 (by omega) (by omega)
theorem l10Read_eq {l : List Int} (hb : inB l) (hl : l.length ≤ 1099511627776) (i k : Nat) (b : Bool) (hk : 4 < k) (hi : i ≤ l.length) :
    spec_l10Read.f k l (i : Int) b = some (((rdN 4 l 0 0 i b).1 : Int), ((rdN 4 l 0 0 i b).2.1 : Int), (rdN 4 l 0 0 i b).2.2) := by
  have := l10Read_l0 hb hl 4 0 0 i k b rfl (by decide) hk hi
  exact this
theorem rdN_le {l : List Int} (hb : inB l) : ∀ (m n j i : Nat) (b : Bool), m + j = 4 → n < 2 ^ (7 * j) → i ≤ l.length → (rdN m l n j i b).1 < 268435456 ∧ (rdN m l n j i b).2.1 ≤ l.length
  | 0, n, j, i, b, hj, hn, hi => ⟨by rw [rdN]; exact (by decide : 0 < 268435456), by rw [rdN]; exact hi⟩
  | m + 1, n, j, i, b, hj, hn, hi => by
    rw [rdN]
    by_cases hend : l.length ≤ i
    · rw [if_pos hend]; exact ⟨(by decide : 0 < 268435456), hi⟩
    · have hin := rd_in hb (show i < l.length by omega)
      have hs := rd_step n j _ hin (by omega) hn
      rw [if_neg hend]
      by_cases hlt : rd l (i : Int) < 128
      · rw [if_pos hlt]
        exact ⟨Nat.lt_of_lt_of_le hs.2 (Nat.le_trans (Nat.pow_le_pow_right (by decide) (show 7 * (j + 1) ≤ 28 by omega)) (by decide)), by show i + 1 ≤ l.length; omega⟩
      · rw [if_neg hlt]
        exact rdN_le hb m _ (j + 1) (i + 1) b (by omega) hs.2 (by omega)
theorem rdN_vi {l : List Int} : ∀ (m v n j i k : Nat) (b : Bool) (r : List Int), l.drop i = vi m v ++ r → v < 128 ^ m → 0 < m → m ≤ k →
    rdN k l n j i b = (n + v * 2 ^ (7 * j), i + (vi m v).length, b)
  | 0, _, _, _, _, _, _, _, _, _, h, _ => absurd h (by decide)
  | m + 1, v, n, j, i, k, b, r, hd, hv, _, hk => by
    obtain ⟨k, rfl⟩ : ∃ k', k = k' + 1 := ⟨k - 1, by omega⟩
    rw [rdN]
    rw [vi] at hd ⊢
    by_cases h : 128 ≤ v
    · rw [if_pos h, List.cons_append] at hd
      obtain ⟨hi, hr, hd2⟩ := drop_cons hd
      have hm : 0 < m := by
        rcases Nat.eq_zero_or_pos m with rfl | h0
        · simp at hv; omega
        · exact h0
      rw [if_neg (by omega), hr, if_neg (by omega), if_pos h, rdN_vi m (v / 128) _ (j + 1) (i + 1) k b r hd2 (by rw [Nat.pow_succ] at hv; omega) hm (by omega), p7]
      refine Prod.ext ?_ (Prod.ext ?_ rfl)
      · have e1 : (((v % 128 + 128 : Nat) : Int) % 128).toNat = v % 128 := by omega
        simp only [e1]
        generalize 2 ^ (7 * j) = p
        have e2 : v / 128 * (p * 128) = (v / 128 * 128) * p := by rw [Nat.mul_comm p 128, ← Nat.mul_assoc]
        rw [e2, Nat.add_assoc, ← Nat.add_mul]
        congr 2
        omega
      · simp only [List.length_cons]
        omega
    · rw [if_neg h, List.singleton_append] at hd
      obtain ⟨hi, hr, hd2⟩ := drop_cons hd
      have e1 : ((v : Int) % 128).toNat = v := by omega
      rw [if_neg (by omega), hr, if_pos (by omega), if_neg h, e1]
      rfl
theorem cutL {l : List Int} (a b : Nat) : strOfNums ((l.take (a + b)).drop a) = (strOfNums l).extract a (a + b) := by
  apply bs_inj
  rw [bs_extract, strOf_bs, strOf_bs, List.drop_take, Nat.add_sub_cancel_left, List.map_take, List.map_drop]
def txN (l : List Int) (i : Nat) (b : Bool) : ByteArray × Nat × Bool :=
  if (rdN 4 l 0 0 i b).2.2 = true then (⟨#[]⟩, (rdN 4 l 0 0 i b).2.1, true) else if l.length < (rdN 4 l 0 0 i b).1 + (rdN 4 l 0 0 i b).2.1 then (⟨#[]⟩, (rdN 4 l 0 0 i b).2.1, true)
  else ((strOfNums l).extract (rdN 4 l 0 0 i b).2.1 ((rdN 4 l 0 0 i b).2.1 + (rdN 4 l 0 0 i b).1), (rdN 4 l 0 0 i b).2.1 + (rdN 4 l 0 0 i b).1, false)
theorem txt_eq {l : List Int} (hb : inB l) (hl : l.length ≤ 1099511627776) (i k : Nat) (b : Bool) (hk : 4 < k) (hi : i ≤ l.length) :
    spec_UnpackTree.txt k l (i : Int) b = some ((txN l i b).1, ((txN l i b).2.1 : Int), (txN l i b).2.2) ∧ (txN l i b).1.size ≤ l.length ∧ (txN l i b).2.1 ≤ l.length := by
  obtain ⟨h1, h2⟩ := rdN_le hb 4 0 0 i b rfl (by decide) hi
  unfold spec_UnpackTree.txt
  rw [l10Read_eq hb hl i k b hk hi, Option.bind_some]
  simp only []
  rw [if_pos (by omega)]
  unfold txN
  generalize rdN 4 l 0 0 i b = q at h1 h2 ⊢
  obtain ⟨n, i1, b1⟩ := q
  simp only [] at h1 h2 ⊢
  cases b1 with
  | true => exact ⟨rfl, Nat.zero_le _, h2⟩
  | false =>
    rw [if_neg (show ¬ (false = true) by decide), if_neg (show ¬ (false = true) by decide)]
    by_cases hlt : l.length < n + i1
    · rw [if_pos (by omega), if_pos hlt]
      exact ⟨rfl, Nat.zero_le _, h2⟩
    · rw [if_neg (by omega), if_neg hlt]
      refine ⟨?_, by rw [ByteArray.size_extract, strOf_size]; show _ ≤ _; omega, by show i1 + n ≤ l.length; omega⟩
      have e1 : ((i1 : Int) + (n : Int)).toNat = i1 + n := by omega
      rw [e1, Int.toNat_natCast, cutL]
      rfl
theorem txN_tx {l : List Int} {i : Nat} {p : ByteArray} {r : List Int} (h : l.drop i = tx p ++ r) (hp : p.size ≤ 1048576) : txN l i false = (p, i + (tx p).length, false) := by
  have hl := len_app h (tx_pos p)
  have htl : (tx p).length = (vi 4 p.size).length + p.size := by rw [tx, List.length_append, bytesOf_length]
  have h0 : l.drop i = vi 4 p.size ++ (bytesOf p ++ r) := by rw [h, tx, List.append_assoc]
  have h1 := drop_app h0
  unfold txN
  rw [rdN_vi 4 p.size 0 0 i 4 false _ h0 (by omega) (by decide) (by decide)]
  simp only [Nat.zero_add, Nat.mul_zero, Nat.pow_zero, Nat.mul_one]
  rw [if_neg (by decide), if_neg (by omega), cut_is h1, htl, Nat.add_assoc]
theorem unp_pk {l : List Int} (hb : inB l) (hl : l.length ≤ 1099511627776) (k : Nat) (hk : 4 < k) (t : List S29) (hok : treeOk t) (hz : ∀ i, (gd t i).f0.size ≤ 1048576 ∧ (gd t i).f2.size ≤ 1048576) : ∀ (n j i q : Nat), l.drop i = pk t n j → j + n = t.length → n < q →
    spec_UnpackTree.unp q k l (i : Int) false (t.take j) n = some (some (t, false))
  | 0, j, i, q, hd, hj, hq => by
    obtain ⟨q, rfl⟩ : ∃ q', q = q' + 1 := ⟨q - 1, by omega⟩
    rw [spec_UnpackTree.unp, if_neg (by omega), List.take_of_length_le (by omega)]
  | n + 1, j, i, q, hd, hj, hq => by
    obtain ⟨q, rfl⟩ : ∃ q', q = q' + 1 := ⟨q - 1, by omega⟩
    have hjl : j < t.length := by omega
    rw [pk, List.cons_append, List.append_assoc] at hd
    obtain ⟨hi, hr, hd2⟩ := drop_cons hd
    have hd3 := drop_app hd2
    have hd4 := drop_app hd3
    have hent : (⟨(gd t j).f0, rd l (i : Int) % 16, (gd t j).f2, (rd l (i : Int) / 16 == 1)⟩ : S29) = gd t j := by
      have hk := kb_kind (hok.2 j hjl).1
      rw [hr, hk.1, hk.2]
    have hin := rd_in hb hi
    have hx1 := len_app hd2 (tx_pos _)
    have hx2 := len_app hd3 (tx_pos _)
    have t1 := (txt_eq hb hl (i + 1) k false hk (by omega)).1
    have t2 := (txt_eq hb hl (i + 1 + (tx (gd t j).f0).length) k false hk (by omega)).1
    rw [txN_tx hd2 (hz j).1] at t1
    rw [txN_tx hd3 (hz j).2] at t2
    have e1 : (i : Int) + 1 = ((i + 1 : Nat) : Int) := by push_cast; rfl
    rw [spec_UnpackTree.unp, if_pos (by omega), if_neg (by decide), if_neg (by omega), if_pos (by omega), e1, t1, Option.bind_some]
    simp only []
    rw [t2, Option.bind_some]
    simp only []
    rw [hent, Nat.add_sub_cancel]
    have e : t.take j ++ [gd t j] = t.take (j + 1) := by rw [gd_get t j hjl, List.take_append_getElem hjl]
    rw [e]
    exact unp_pk hb hl k hk t hok hz n (j + 1) _ q hd4 (by omega) (by omega)
theorem unp_some {l : List Int} (hb : inB l) (hl : l.length ≤ 1099511627776) (k : Nat) (hk : 4 < k) : ∀ (q i : Nat) (b : Bool) (t : List S29) (n : Nat), n < q → i ≤ l.length → smalls l.length t →
    ∃ o, spec_UnpackTree.unp q k l (i : Int) b t n = some o ∧ ∀ p, o = some p → smalls l.length p.1
  | 0, _, _, _, _, h, _, _ => by omega
  | q + 1, i, b, t, n, h, hi, hs => by
    rw [spec_UnpackTree.unp]
    by_cases hn : 0 < n
    case neg => rw [if_neg hn]; exact ⟨_, rfl, fun p e => by injection e with e; subst e; exact hs⟩
    rw [if_pos hn]
    cases b with
    | true => exact ⟨_, rfl, fun p e => by injection e with e; subst e; exact hs⟩
    | false =>
      rw [if_neg (by decide)]
      by_cases hend : (l.length : Int) ≤ i
      · rw [if_pos hend]; exact ⟨_, rfl, fun p e => by cases e⟩
      · have hin := rd_in hb (show i < l.length by omega)
        obtain ⟨t1, s1, l1⟩ := txt_eq hb hl (i + 1) k false hk (by omega)
        obtain ⟨t2, s2, l2⟩ := txt_eq hb hl (txN l (i + 1) false).2.1 k (txN l (i + 1) false).2.2 hk l1
        have e1 : (i : Int) + 1 = ((i + 1 : Nat) : Int) := by push_cast; rfl
        rw [if_neg hend, if_pos (by omega), e1, t1, Option.bind_some]
        simp only []
        rw [t2, Option.bind_some]
        simp only []
        refine unp_some hb hl k hk q _ _ _ (n - 1) (by omega) l2 ?_
        intro e he
        rcases List.mem_append.1 he with he | he
        · exact hs e he
        · rw [List.mem_singleton] at he
          subst he
          exact ⟨s1, s2⟩
theorem strOf_of_take {l : List Int} (h : l.take 4 = [76, 65, 82, 49]) : (strOfNums (l.take 4)).toList = [76, 65, 82, 49] := by
  rw [h, toList_bs]; rfl
theorem spec_unpacks {l : List Int} {t : List S29} (h : isTree t l) (hb : inB l) (hl : l.length ≤ 1048576) (k : Nat) (hk : 2110000 ≤ k) : spec_UnpackTree.f k l = some (t, true) := by
  obtain ⟨hok, hsm, hp⟩ := h
  have hz := smalls_gd hsm
  have h500 := hok.1
  obtain ⟨h4, htk, h4l⟩ := head_is hp
  have h5 := drop_app h4
  have h6 := l10Read_eq hb (by omega) 4 k false (by omega) h4l
  rw [rdN_vi 4 t.length 0 0 4 4 false _ h4 (by omega) (by decide) (by decide)] at h6
  simp only [Nat.zero_add, Nat.mul_zero, Nat.pow_zero, Nat.mul_one] at h6
  unfold spec_UnpackTree.f
  rw [if_pos (by omega), if_neg (by omega), if_pos (strOf_of_take htk)]
  rw [show ((4 : Nat) : Int) = 4 from rfl] at h6
  rw [h6, Option.bind_some]
  simp only []
  rw [if_neg (by omega), if_pos (by omega), Int.toNat_natCast]
  have hu := unp_pk hb (by omega) k (by omega) t hok hz t.length 0 _ 501 h5 (by omega) (by omega)
  rw [List.take_zero] at hu
  rw [hu, Option.bind_some]
  show (if (false = true) then some ([], false) else (spec_TreeOk.f k t).bind fun ok => if ok = true then (spec_PackTree.f k t).bind fun b => (spec_l10Same.f b l).bind fun sm => if sm = true then some (t, true) else some ([], false) else some ([], false)) = _
  obtain ⟨b1, hi1, hi2⟩ := spec_TreeOk_eq t (fun i => (hz i).1) k (by omega)
  rw [if_neg (by decide), hi1, Option.bind_some, if_pos (hi2.2 hok)]
  rcases pack_both t hz k hk with ⟨_, _, h1⟩ | ⟨h0, _, _⟩
  · have hs : spec_l10Same.f (packed t) l = some true := by
      unfold spec_l10Same.f
      rw [hp]; simp
    rw [h1, Option.bind_some, hs, Option.bind_some, if_pos rfl]
  · exact absurd hok h0
theorem spec_tells {l : List Int} (hb : inB l) (hl : l.length ≤ 1048576) (k : Nat) (hk : 2110000 ≤ k) : spec_UnpackTree.f k l = some ([], false) ∨ ∃ t, spec_UnpackTree.f k l = some (t, true) ∧ isTree t l := by
  unfold spec_UnpackTree.f
  rw [if_pos (by omega)]
  by_cases h4 : l.length < 4
  · rw [if_pos h4]; exact .inl rfl
  rw [if_neg h4]
  by_cases hp : (strOfNums (l.take 4)).toList = [76, 65, 82, 49]
  case neg => rw [if_neg hp]; exact .inl rfl
  rw [if_pos hp]
  have h6 := l10Read_eq hb (by omega) 4 k false (by omega) (by omega)
  rw [show ((4 : Nat) : Int) = 4 from rfl] at h6
  obtain ⟨h7, h8⟩ := rdN_le hb 4 0 0 4 false rfl (by decide) (by omega)
  rw [h6, Option.bind_some]
  simp only []
  generalize rdN 4 l 0 0 4 false = q at h7 h8 ⊢
  obtain ⟨n, i, b⟩ := q
  simp only [] at h7 h8 ⊢
  by_cases hbig : 500 < (n : Int)
  · rw [if_pos hbig]; exact .inl rfl
  rw [if_neg hbig, if_pos (by omega), Int.toNat_natCast]
  obtain ⟨o, h2, h3⟩ := unp_some hb (by omega) k (by omega) 501 i b [] n (by omega) h8 (fun e he => by cases he)
  rw [h2, Option.bind_some]
  cases o with
  | none => exact .inl rfl
  | some q =>
    obtain ⟨t, b⟩ := q
    have hsm : smalls 1048576 t := fun e he => by
      have := h3 _ rfl e he
      omega
    have hz := smalls_gd hsm
    cases b with
    | true => exact .inl rfl
    | false =>
      show (if (false = true) then some ([], false) else (spec_TreeOk.f k t).bind fun ok => if ok = true then (spec_PackTree.f k t).bind fun b => (spec_l10Same.f b l).bind fun sm => if sm = true then some (t, true) else some ([], false) else some ([], false)) = _ ∨ ∃ t', (if (false = true) then some ([], false) else (spec_TreeOk.f k t).bind fun ok => if ok = true then (spec_PackTree.f k t).bind fun b => (spec_l10Same.f b l).bind fun sm => if sm = true then some (t, true) else some ([], false) else some ([], false)) = some (t', true) ∧ isTree t' l
      obtain ⟨b1, hi1, hi2⟩ := spec_TreeOk_eq t (fun i => (hz i).1) k (by omega)
      rw [if_neg (by decide), hi1, Option.bind_some]
      by_cases hok : treeOk t
      case neg => rw [if_neg (fun h => hok (hi2.1 h))]; exact .inl rfl
      rw [if_pos (hi2.2 hok)]
      rcases pack_both t hz k hk with ⟨_, _, h5⟩ | ⟨h0, _, _⟩
      · rw [h5, Option.bind_some]
        by_cases he : (strOfNums (packed t)).toList = (strOfNums l).toList
        · have hs : spec_l10Same.f (packed t) l = some true := by
            unfold spec_l10Same.f
            rw [he]; simp
          rw [hs, Option.bind_some, if_pos rfl]
          exact .inr ⟨t, rfl, hok, hsm, strOf_inj (packed_in t) hb he⟩
        · have hs : spec_l10Same.f (packed t) l = some false := by
            unfold spec_l10Same.f
            simpa using he
          rw [hs, Option.bind_some, if_neg (by decide)]; exact .inl rfl
      · exact absurd hok h0
end Go.Proofs.YtjnmcgeahomkeaaDoor.P
end

section
set_option linter.unusedVariables false
set_option linter.unusedSimpArgs false
namespace Go.Proofs.YtjnmcgeahomkeaaDoor.P
open Go.RowKit Go.Proofs.YtjnmcgeahomkeaaDoorW.PrintWords Go.Proofs.YtjnmcgeahomkeaaDoorW.PrintLast Go.Proofs.YtjnmcgeahomkeaaDoorM
theorem cutB_eq (p : ByteArray) (e : S29) : impl_CutEntry.cutB p e = (decide (e.f0 = p) || pre (slash p) e.f0) := by
  unfold impl_CutEntry.cutB
  have h1 : (e.f0.toList == p.toList) = decide (e.f0 = p) := by
    by_cases h : e.f0 = p
    · rw [h]; simp
    · rw [decide_eq_false h, beq_eq_false_iff_ne]
      exact fun hh => h (bs_inj (by rw [← toList_bs, ← toList_bs]; exact hh))
  have h2 : Lib.hasPrefix e.f0.data.toList (p ++ (⟨#[47]⟩ : ByteArray)).data.toList = pre (slash p) e.f0 := by
    have hl : (bs (slash p)).length = (slash p).size := bs_length _
    unfold Lib.hasPrefix pre
    change List.isPrefixOf (bs (slash p)) (bs e.f0) = _
    rw [Bool.eq_iff_iff, List.isPrefixOf_iff_prefix, decide_eq_true_iff, List.prefix_iff_eq_take, hl]
    exact eq_comm
  rw [h1, h2]
def keepL (p : ByteArray) (t : List S29) : List S29 := t.filter (fun e => !impl_CutEntry.cutB p e)
theorem keepL_cons (p : ByteArray) (e : S29) (t : List S29) : keepL p (e :: t) = if e.f0 = p then keepL p t else if pre (slash p) e.f0 = true then keepL p t else e :: keepL p t := by
  unfold keepL
  rw [List.filter_cons, cutB_eq]
  by_cases h : e.f0 = p
  · simp [h]
  · cases hq : pre (slash p) e.f0 <;> simp [h]
open Classical in
/-- What CutEntry answers. -/
noncomputable def cutOf (t : List S29) (p : ByteArray) : List S29 × Bool := if treeOk t then (if ∃ i, i < t.length ∧ (gd t i).f0 = p then (keepL p t, true) else (t, false)) else ([], false)
theorem impl_CutEntry_eq (t : List S29) (p : ByteArray) (hz : smallT t) (hp : p.size ≤ 1048576) (k : Nat) (hk : 3000 ≤ k) : impl_CutEntry.f k t p = some (cutOf t p) := by
  obtain ⟨b, hb1, hb2⟩ := impl_TreeOk_eq t hz k (by omega)
  unfold impl_CutEntry.f cutOf
  rw [hb1, Option.bind_some]
  by_cases hok : treeOk t
  · have hl := hok.1
    rw [if_pos (hb2.2 hok), if_pos hok]
    unfold impl_cloneTree.f
    rw [if_pos (by omega), Option.bind_some]
    obtain ⟨r, hr, hc⟩ := entryAt_eq t p
    rw [hr, Option.bind_some]
    rcases hc with ⟨rfl, hno⟩ | ⟨j, rfl, hj, he⟩
    · rw [if_pos (by omega), if_neg]
      rintro ⟨i, hi, h⟩
      exact hno i hi h
    · rw [if_neg (by omega), if_pos hp, if_pos ⟨j, hj, he⟩]
      rfl
  · rw [if_neg (fun h => hok (hb2.1 h)), if_neg hok]
end Go.Proofs.YtjnmcgeahomkeaaDoor.P
end

section
set_option linter.unusedVariables false
set_option linter.unusedSimpArgs false
namespace Go.Proofs.YtjnmcgeahomkeaaDoor.P
open Go.RowKit Go.Proofs.YtjnmcgeahomkeaaDoorW.PrintWords Go.Proofs.YtjnmcgeahomkeaaDoorW.PrintLast Go.Proofs.YtjnmcgeahomkeaaDoorM
theorem DrawAny_l0 (l : List Int) : ∀ (m k : Nat) (t : List S29) (p h : Int), m + 20 ≤ k → m + t.length ≤ 600 → sm2 t → cur l p →
    ∃ r p' h', spec_l10DrawAny.l0 k t (m : Int) l p h = some (r, p', h') ∧ sm2 r ∧ r.length ≤ 600 ∧ cur l p' := by
  intro m
  induction m with
  | zero =>
    intro k t p h hk hi ht hc
    obtain ⟨k, rfl⟩ : ∃ k', k = k' + 1 := ⟨k - 1, by omega⟩
    rw [spec_l10DrawAny.l0, if_neg (by omega)]
    exact ⟨_, _, _, rfl, ht, by omega, hc⟩
  | succ m ih =>
    intro k t p h hk hi ht hc
    obtain ⟨k, rfl⟩ : ∃ k', k = k' + 1 := ⟨k - 1, by omega⟩
    have hw : wrap64 (((m + 1 : Nat) : Int) - 1) = (m : Int) := by rw [wrap64_id (by omega) (by omega)]; omega
    have hw2 : wrap64 (1000 + ((m + 1 : Nat) : Int)) = 1000 + ((m + 1 : Nat) : Int) := wrap64_id (by omega) (by omega)
    obtain ⟨s, e, hz⟩ := l2Int_tot 5 k (1000 + ((m + 1 : Nat) : Int)) (⟨#[]⟩ : ByteArray) (by omega) (by omega) (by omega) (by omega) (by decide)
    have h0x : (⟨#[]⟩ : ByteArray).size = 0 := rfl
    have h1x : (⟨#[112]⟩ : ByteArray).size = 1 := rfl
    have he : spec_l2Int.f k (1000 + ((m + 1 : Nat) : Int)) = some s := e
    rw [spec_l10DrawAny.l0, if_pos (by omega), hw2, he, Option.bind_some, if_pos (by omega), Option.bind_some, if_pos (by rw [List.length_singleton]; omega), hw]
    refine ih k _ p h (by omega) (by rw [List.length_append, List.length_singleton]; omega) (fun x hx => ?_) hc
    rcases List.mem_append.1 hx with h3 | h3
    · rw [List.mem_singleton] at h3
      subst h3
      exact ⟨by show ((⟨#[112]⟩ : ByteArray) ++ s).size ≤ 100; rw [ByteArray.size_append]; omega, by show (⟨#[]⟩ : ByteArray).size ≤ 30000; omega⟩
    · exact ht x h3
theorem DrawAny_tot (l : List Int) (i h : Int) (hc : cur l i) (k : Nat) (hk : 2210000 ≤ k) : ∃ t i' h', spec_l10DrawAny.f k l i h = some (t, i', h') ∧ sm2 t ∧ t.length ≤ 600 ∧ cur l i' := by
  have hj1 : ∀ (k : Nat) (t : List S29) (i h : Int), 70000 ≤ k → sm2 t → t.length ≤ 300 → cur l i → ∃ r i' h', spec_l10DrawAny.j1 k t l i h = some (r, i', h') ∧ sm2 r ∧ r.length ≤ 600 ∧ cur l i' := by
    intro k t i h hk ht hl hc
    obtain ⟨k, rfl⟩ : ∃ k', k = k' + 1 := ⟨k - 1, by omega⟩
    obtain ⟨b, i1, h1, e1, c1⟩ := l1Once_eq l i h 100 hc (by decide) (by decide)
    rw [spec_l10DrawAny.j1, e1, Option.bind_some]
    cases b with
    | false => rw [if_neg (by exact Bool.false_ne_true)]; exact ⟨_, _, _, rfl, ht, by omega, c1⟩
    | true =>
      obtain ⟨b2, i2, h2, e2, x2, y2, c2⟩ := l1Below_eq l i1 h1 3 c1 (by decide) (by decide)
      rw [if_pos rfl, e2, Option.bind_some]
      obtain ⟨n, hn⟩ : ∃ n : Nat, b2 = n := ⟨b2.toNat, by omega⟩
      subst hn
      have hw : wrap64 (wrap64 ((n : Int) + 500) - 1) = ((n + 499 : Nat) : Int) := by rw [wrap64_id (by omega : -9223372036854775808 ≤ (n : Int) + 500) (by omega), wrap64_id (by omega) (by omega)]; omega
      show ∃ r i' h', spec_l10DrawAny.l0 k [] (wrap64 (wrap64 ((n : Int) + 500) - 1)) l i2 h2 = some (r, i', h') ∧ _
      rw [hw]
      exact DrawAny_l0 l (n + 499) k [] i2 h2 (by omega) (by rw [List.length_nil]; omega) (fun e he => nomatch he) c2
  have hj0 : ∀ (k : Nat) (t : List S29) (b : Bool) (i h : Int), 70001 ≤ k → sm2 t → t.length ≤ 300 → (b = true → 0 < t.length) → cur l i → ∃ r i' h', spec_l10DrawAny.j0 k t b l i h = some (r, i', h') ∧ sm2 r ∧ r.length ≤ 600 ∧ cur l i' := by
    intro k t b i h hk ht hl hb hc
    obtain ⟨k, rfl⟩ : ∃ k', k = k' + 1 := ⟨k - 1, by omega⟩
    rw [spec_l10DrawAny.j0]
    cases b with
    | false => rw [if_neg (by exact Bool.false_ne_true)]; exact hj1 k t i h (by omega) ht hl hc
    | true =>
      have hpos := hb rfl
      obtain ⟨b2, i2, h2, e2, x2, y2, c2⟩ := l1Below_all l i h (t.length : Int) hc
      have y2' := y2 (by omega)
      obtain ⟨e0, e1, e2', e3, p1, h1, q, z0, z2, c1⟩ := DrawEntry_tot l i2 h2 c2 k (by omega)
      rw [if_pos rfl, e2, Option.bind_some]
      show ∃ r i' h', ((spec_l10DrawEntry.f k l i2 h2).bind _) = some (r, i', h') ∧ _
      rw [q, Option.bind_some, if_pos x2, if_pos (by exact y2')]
      refine hj1 k _ p1 h1 (by omega) (fun x hx => ?_) (by rw [List.length_set]; exact hl) c1
      rcases List.mem_or_eq_of_mem_set hx with h3 | h3
      · exact ht x h3
      · subst h3; exact ⟨z0, z2⟩
  unfold spec_l10DrawAny.f
  obtain ⟨b, i1, h1, e1, x1, y1, c1⟩ := l1Below_eq l i h 9 hc (by decide) (by decide)
  rw [e1, Option.bind_some]
  obtain ⟨t, i2, h2, e2, ht, c2⟩ := DrawTree_tot l i1 h1 b x1 (by omega) c1 k (by omega)
  rw [e2, Option.bind_some]
  obtain ⟨b3, i3, h3, e3, c3⟩ := l1Once_eq l i2 h2 12 c2 (by decide) (by decide)
  rw [e3, Option.bind_some]
  cases b3 with
  | false => rw [if_neg (by exact Bool.false_ne_true)]; exact hj0 k t false i3 h3 (by omega) ht.2.1 (by have := ht.2.2; omega) (fun h => nomatch h) c3
  | true => rw [if_pos rfl]; exact hj0 k t _ i3 h3 (by omega) ht.2.1 (by have := ht.2.2; omega) (fun h => by have h2 : (t.length : Int) > 0 := of_decide_eq_true h; omega) c3
theorem DrawPutEntry_tot (l : List Int) (hl : (l.length : Int) ≤ 1048576) (k : Nat) (hk : 3300000 ≤ k) : ∃ t e, spec_DrawPutEntry.f k l = some (t, e.f0, e.f1, e.f2, e.f3) ∧ sm2 t ∧ t.length ≤ 600 ∧ (e : S29).f0.size ≤ 100 ∧ e.f2.size ≤ 30000 := by
  unfold spec_DrawPutEntry.f
  obtain ⟨h0, e0, c0⟩ := l1New_eq l hl k (by omega)
  rw [e0, Option.bind_some]
  obtain ⟨t, i1, h1, e1, ht, hn, c1⟩ := DrawAny_tot l 0 h0 c0 k (by omega)
  rw [e1, Option.bind_some]
  obtain ⟨p, n, d, x, i2, h2, e2, z0, z2, c2⟩ := DrawEntry_tot l i1 h1 c1 k (by omega)
  show ∃ t e, ((spec_l10DrawEntry.f k l i1 h1).bind _) = _ ∧ _
  rw [e2, Option.bind_some]
  exact ⟨t, ⟨p, n, d, x⟩, rfl, ht, hn, z0, z2⟩
theorem sm2_gd {t : List S29} (ht : sm2 t) (i : Nat) : (gd t i).f0.size ≤ 100 ∧ (gd t i).f2.size ≤ 30000 := by
  by_cases hi : i < t.length
  · exact ht _ (gd_mem t i hi)
  · unfold gd; rw [List.getD_eq_getElem?_getD, List.getElem?_eq_none (by omega)]; exact ⟨by decide, by decide⟩
theorem pk_len {t : List S29} (ht : sm2 t) : ∀ n i, (pk t n i).length ≤ n * 30109
  | 0, i => by simp [pk]
  | n + 1, i => by
    have hz := sm2_gd ht i
    have h1 := tx_length (gd t i).f0
    have h2 := tx_length (gd t i).f2
    have h3 := pk_len ht n (i + 1)
    rw [pk]
    simp only [List.length_append, List.length_cons]
    omega
theorem packed_len {t : List S29} (ht : sm2 t) (m : Nat) (h : t.length ≤ m) : (packed t).length ≤ 8 + m * 30109 := by
  unfold packed
  have h1 := vi_length 4 t.length
  have h2 := pk_len ht t.length 0
  have h3 := Nat.mul_le_mul_right 30109 h
  simp only [List.length_append, List.length_cons, List.length_nil]
  omega
theorem sm2_smalls {t : List S29} (h : sm2 t) : smalls 1048576 t := fun e he => ⟨Nat.le_trans (h e he).1 (by decide), Nat.le_trans (h e he).2 (by decide)⟩
theorem inB_set {l : List Int} (hb : inB l) (i : Nat) (x : Int) (hx : 0 ≤ x ∧ x < 256) : inB (l.set i x) := fun y hy => by
  rcases List.mem_or_eq_of_mem_set hy with h | h
  · exact hb y h
  · subst h; exact hx
theorem inB_take {l : List Int} (hb : inB l) (n : Nat) : inB (l.take n) := fun y hy => hb y (List.mem_of_mem_take hy)
theorem DrawUnpack_tot (l : List Int) (hl : (l.length : Int) ≤ 1048576) (k : Nat) (hk : 3000000 ≤ k) : ∃ z, spec_DrawUnpackTree.f k l = some z ∧ inB z ∧ z.length ≤ 1048576 := by
  have hj : ∀ (z : List Int) (a c : Int) (b : Bool) (i h : Int) (k : Nat), 1 ≤ k → inB z → z.length ≤ 1000000 → 0 ≤ a → (0 < (z.length : Int) → a < (z.length : Int)) → (b = true → 0 < z.length) → (c = 2 → a ≤ (z.length : Int)) → cur l i →
      ∃ r, spec_DrawUnpackTree.j0 k z a c b l i h = some r ∧ inB r ∧ r.length ≤ 1048576 := by
    intro z a c b i h k hk hb hn h0 h1 h2 h3 hc
    obtain ⟨k, rfl⟩ : ∃ k', k = k' + 1 := ⟨k - 1, by omega⟩
    rw [spec_DrawUnpackTree.j0]
    cases b with
    | true =>
      obtain ⟨x, i1, h1', e1, x1, y1, c1⟩ := l1Below_eq l i h 256 hc (by decide) (by decide)
      have := h2 rfl
      rw [if_pos rfl, e1, Option.bind_some, if_pos h0, if_pos (h1 (by omega))]
      exact ⟨_, rfl, inB_set hb _ _ (by omega), by rw [List.length_set]; omega⟩
    | false =>
      rw [if_neg (by exact Bool.false_ne_true)]
      by_cases q2 : c = 2
      · rw [if_pos q2, if_pos h0, if_pos (h3 q2)]; exact ⟨_, rfl, inB_take hb _, by rw [List.length_take]; omega⟩
      · rw [if_neg q2]
        by_cases q3 : c = 3
        · rw [if_pos q3, if_pos (by omega)]; exact ⟨_, rfl, inB_append hb (fun x hx => by rw [List.mem_singleton] at hx; omega), by rw [List.length_append, List.length_singleton]; omega⟩
        · rw [if_neg q3]; exact ⟨_, rfl, hb, by omega⟩
  unfold spec_DrawUnpackTree.f
  obtain ⟨h0, e0, c0⟩ := l1New_eq l hl k (by omega)
  rw [e0, Option.bind_some]
  obtain ⟨n, i1, h1, e1, x1, y1, c1⟩ := l1Below_eq l 0 h0 8 c0 (by decide) (by decide)
  rw [e1, Option.bind_some]
  obtain ⟨t, i2, h2, e2, ht, c2⟩ := DrawTree_tot l i1 h1 n x1 (by omega) c1 k (by omega)
  show ∃ z, ((spec_l10DrawTree.f k l i1 h1 n).bind _) = some z ∧ _
  rw [e2, Option.bind_some]
  have hz := smalls_gd (sm2_smalls ht.2.1)
  have hlen := packed_len ht.2.1 21 (by have := ht.2.2; omega)
  obtain ⟨z, ez, hb, hzl⟩ : ∃ z, spec_PackTree.f k t = some z ∧ inB z ∧ z = packed t := by
    rcases pack_both t hz k (by omega) with ⟨_, _, h⟩ | ⟨h0, _, h⟩
    · exact ⟨_, h, packed_in t, rfl⟩
    · exact absurd ht.1 h0
  have hpos : 0 < z.length := by rw [hzl]; unfold packed; simp
  show ∃ z, ((spec_PackTree.f k t).bind _) = some z ∧ _
  rw [ez, Option.bind_some]
  obtain ⟨a, i3, h3, e3, x3, y3, c3⟩ := l1Below_all l i2 h2 (z.length : Int) c2
  show ∃ z', ((spec_l1Below.f l i2 h2 (z.length : Int)).bind _) = some z' ∧ _
  rw [e3, Option.bind_some]
  obtain ⟨c, i4, h4, e4, x4, y4, c4⟩ := l1Below_eq l i3 h3 6 c3 (by decide) (by decide)
  show ∃ z', ((spec_l1Below.f l i3 h3 6).bind _) = some z' ∧ _
  rw [e4, Option.bind_some]
  have hn : z.length ≤ 1000000 := by rw [hzl]; omega
  have y3' := y3 (by omega)
  split
  · exact hj z a c _ i4 h4 k (by omega) hb hn x3 (fun _ => y3') (fun _ => hpos) (fun _ => by omega) c4
  · exact hj z a c _ i4 h4 k (by omega) hb hn x3 (fun _ => y3') (fun _ => hpos) (fun _ => by omega) c4
end Go.Proofs.YtjnmcgeahomkeaaDoor.P
end

section
set_option linter.unusedVariables false
set_option linter.unusedSimpArgs false
namespace Go.Proofs.YtjnmcgeahomkeaaDoor.P
open Go.RowKit Go.Proofs.YtjnmcgeahomkeaaDoorW.PrintWords Go.Proofs.YtjnmcgeahomkeaaDoorW.PrintLast Go.Proofs.YtjnmcgeahomkeaaDoorM
theorem sameTree_l0 (t : List S29) (hl : t.length ≤ 1099511627776) : ∀ (n k i : Nat), n + 1 ≤ k → i + n = t.length → laws_sameTree.l0 k t t (i : Int) = some true := by
  intro n
  induction n with
  | zero =>
    intro k i hk hi
    obtain ⟨k, rfl⟩ : ∃ k', k = k' + 1 := ⟨k - 1, by omega⟩
    rw [laws_sameTree.l0, if_neg (by omega)]
  | succ n ih =>
    intro k i hk hi
    obtain ⟨k, rfl⟩ : ∃ k', k = k' + 1 := ⟨k - 1, by omega⟩
    have hw : wrap64 ((i : Int) + 1) = ((i + 1 : Nat) : Int) := by rw [wrap64_id (by omega) (by omega)]; omega
    rw [laws_sameTree.l0, if_pos (by omega), if_pos (by omega), if_pos (by omega), if_neg (by simp), hw]
    exact ih k (i + 1) (by omega) (by omega)
theorem sameTree_refl (t : List S29) (hl : t.length ≤ 1099511627776) (k : Nat) (hk : t.length + 1 ≤ k) : laws_sameTree.f k t t = some true := by
  unfold laws_sameTree.f
  rw [if_pos rfl]
  exact sameTree_l0 t hl t.length k 0 hk (by omega)
theorem FindEntry_eq (t : List S29) (p : ByteArray) (hz : smallT t) (k : Nat) (hk : 2000 ≤ k) :
    ∃ r, impl_FindEntry.f k t p = some r ∧ ((r = -1 ∧ (treeOk t → ∀ i, i < t.length → (gd t i).f0 ≠ p)) ∨ ∃ j : Nat, r = j ∧ treeOk t ∧ j < t.length ∧ (gd t j).f0 = p) := by
  obtain ⟨b, hb1, hb2⟩ := impl_TreeOk_eq t hz k hk
  unfold impl_FindEntry.f
  rw [hb1, Option.bind_some]
  by_cases hok : treeOk t
  · rw [if_pos (hb2.2 hok)]
    obtain ⟨r, hr, hc⟩ := entryAt_eq t p
    rw [hr, Option.bind_some]
    refine ⟨r, rfl, ?_⟩
    rcases hc with ⟨h1, h2⟩ | ⟨j, h1, h2, h3⟩
    · exact .inl ⟨h1, fun _ => h2⟩
    · exact .inr ⟨j, h1, hok, h2, h3⟩
  · rw [if_neg (fun h => hok (hb2.1 h))]
    exact ⟨-1, rfl, .inl ⟨rfl, fun h => absurd h hok⟩⟩
theorem putR_new (e : S29) : ∀ t : List S29, (∀ x ∈ t, x.f0 ≠ e.f0) → (putR e t).length = t.length + 1
  | [], _ => rfl
  | x :: t, h => by
    rw [putR]
    split
    · rw [List.length_cons, putR_new e t (fun y hy => h y (List.mem_cons_of_mem _ hy)), List.length_cons]
    · rw [if_neg (h x List.mem_cons_self)]
      simp
theorem keepL_id (p : ByteArray) : ∀ t : List S29, (∀ x ∈ t, x.f0 ≠ p ∧ pre (slash p) x.f0 = false) → keepL p t = t
  | [], _ => rfl
  | x :: t, h => by
    have h1 := h x List.mem_cons_self
    rw [keepL_cons, if_neg h1.1, if_neg (by rw [h1.2]; decide), keepL_id p t (fun y hy => h y (List.mem_cons_of_mem _ hy))]
theorem keepL_put (e : S29) : ∀ t : List S29, (∀ x ∈ t, x.f0 ≠ e.f0 ∧ pre (slash e.f0) x.f0 = false) → keepL e.f0 (putR e t) = t
  | [], _ => by rw [putR, keepL_cons, if_pos rfl]; rfl
  | x :: t, h => by
    have h1 := h x List.mem_cons_self
    have h2 : ∀ y ∈ t, y.f0 ≠ e.f0 ∧ pre (slash e.f0) y.f0 = false := fun y hy => h y (List.mem_cons_of_mem _ hy)
    rw [putR]
    split
    · rw [keepL_cons, if_neg h1.1, if_neg (by rw [h1.2]; decide), keepL_put e t h2]
    · rw [if_neg h1.1, keepL_cons, if_pos rfl, keepL_id e.f0 _ h]
theorem under_has {t : List S29} (ht : treeOk t) {p : ByteArray} (hno : ∀ x ∈ t, x.f0 ≠ p) : ∀ x ∈ t, pre (slash p) x.f0 = false := fun x hx => by
  cases h : pre (slash p) x.f0 with
  | false => rfl
  | true =>
    obtain ⟨x', hx', hu, he⟩ := climb ht p x.f0.size x (Nat.le_refl _) hx h
    obtain ⟨y, hy, hyp, _⟩ := ((treeOk_mem t).1 ht).2.2.2 x' hx' hu
    exact absurd (hyp.trans he) (hno y hy)
theorem unp_pack {t : List S29} (hok : treeOk t) (ht : sm2 t) (k : Nat) (hk : 2110000 ≤ k) : impl_UnpackTree.f k (packed t) = some (t, true) := by
  have h1 := packed_len ht t.length (Nat.le_refl _)
  have h2 := hok.1
  exact impl_unpacks ⟨hok, sm2_smalls ht, rfl⟩ (packed_in t) (by omega) k hk
theorem sm2_small {t : List S29} (h : sm2 t) : smallT t := fun i => (smalls_gd (sm2_smalls h) i).1
theorem sm2_put {t : List S29} {e : S29} (ht : sm2 t) (he : e.f0.size ≤ 100) : smallT (putR e t) := fun i => by
  by_cases hi : i < (putR e t).length
  · have hm := gd_mem _ i hi
    have hall : ∀ (t : List S29), sm2 t → ∀ x ∈ putR e t, x.f0.size ≤ 1048576 := by
      intro t
      induction t with
      | nil => intro _ x hx; rw [putR, List.mem_singleton] at hx; subst hx; omega
      | cons y t ih =>
        intro hs x hx
        have h1 : y.f0.size ≤ 100 := (hs y List.mem_cons_self).1
        have h2 : sm2 t := fun z hz => hs z (List.mem_cons_of_mem _ hz)
        rw [putR] at hx
        split at hx
        · rcases List.mem_cons.1 hx with rfl | h
          · omega
          · exact ih h2 x h
        · split at hx
          · rcases List.mem_cons.1 hx with rfl | h
            · omega
            · have := (h2 x h).1; omega
          · rcases List.mem_cons.1 hx with rfl | h
            · omega
            · have := (hs x h).1; omega
    exact hall t ht _ hm
  · unfold gd; rw [List.getD_eq_getElem?_getD, List.getElem?_eq_none (by omega)]; decide
theorem keep_small {t : List S29} (p : ByteArray) (h : smallT t) : smallT (keepL p t) := fun i => by
  by_cases hi : i < (keepL p t).length
  · have hm := gd_mem _ i hi
    obtain ⟨j, hj, he⟩ := mem_gd ((List.mem_filter.1 hm).1)
    rw [← he]; exact h j
  · unfold gd; rw [List.getD_eq_getElem?_getD, List.getElem?_eq_none (by omega)]; decide
theorem keep_no (p : ByteArray) (t : List S29) : ∀ i, i < (keepL p t).length → (gd (keepL p t) i).f0 ≠ p := fun i hi he => by
  have hm := gd_mem _ i hi
  unfold keepL at hm
  have := (List.mem_filter.1 hm).2
  rw [cutB_eq] at this
  rw [show keepL p t = t.filter (fun e => !impl_CutEntry.cutB p e) from rfl] at he
  rw [decide_eq_true he] at this
  simp at this
theorem Find_keep (t : List S29) (p : ByteArray) (hz : smallT t) (k : Nat) (hk : 2000 ≤ k) : impl_FindEntry.f k (keepL p t) p = some (-1) := by
  obtain ⟨r, hr, hc⟩ := FindEntry_eq (keepL p t) p (keep_small p hz) k hk
  rcases hc with ⟨rfl, _⟩ | ⟨j, rfl, _, hj, he⟩
  · exact hr
  · exact absurd he (keep_no p t j hj)
theorem TreeBack_j3 (t : List S29) (e : S29) (hok : treeOk t) (hs : sm2 t) (he : e.f0.size ≤ 100) (hp : putOk t e) (was : Int)
    (hwas : (was = -1 ∧ ∀ i, i < t.length → (gd t i).f0 ≠ e.f0) ∨ 0 ≤ was) (k : Nat) (hk : 3001 ≤ k) : laws_FnTreeBack.j3 k t was (putR e t) false e.f0 e.f1 e.f2 e.f3 = some true := by
  obtain ⟨k, rfl⟩ : ∃ k', k = k' + 1 := ⟨k - 1, by omega⟩
  have hok2 := (putOk_iff hok e).2 hp
  have hz := sm2_put hs he
  have hpw := treeOk_pair hok
  obtain ⟨i, hi, hie⟩ := mem_gd ((putR_mem e t hpw e).2 (.inl rfl))
  have hc : cutOf (putR e t) e.f0 = (keepL e.f0 (putR e t), true) := by
    unfold cutOf
    rw [if_pos hok2, if_pos ⟨i, hi, by rw [hie]⟩]
  rw [laws_FnTreeBack.j3, if_neg (by decide), impl_CutEntry_eq _ _ hz (by omega) k (by omega), Option.bind_some, hc, if_pos rfl, Find_keep _ _ hz k (by omega)]
  simp only [Option.bind_some]
  rcases hwas with ⟨rfl, hno⟩ | h0
  · have hno' : ∀ x ∈ t, x.f0 ≠ e.f0 := fun x hx => by
      obtain ⟨j, hj, hje⟩ := mem_gd hx
      rw [← hje]; exact hno j hj
    have hlen := hok.1
    rw [if_neg (by decide), keepL_put e t (fun x hx => ⟨hno' x hx, under_has hok hno' x hx⟩), sameTree_refl t (by omega) k (by omega), Option.bind_some, if_pos rfl]
    rfl
  · rw [if_pos (by omega)]
    rfl
theorem TreeBack_j2 (t : List S29) (e : S29) (hok : treeOk t) (hs : sm2 t) (he : e.f0.size ≤ 100) (k : Nat) (hk : 2200001 ≤ k) : laws_FnTreeBack.j2 k t false e.f0 e.f1 e.f2 e.f3 = some true := by
  obtain ⟨k, rfl⟩ : ∃ k', k = k' + 1 := ⟨k - 1, by omega⟩
  have hz := sm2_small hs
  have hlen := hok.1
  obtain ⟨was, hw, hwc⟩ := FindEntry_eq t e.f0 hz k (by omega)
  rw [laws_FnTreeBack.j2, if_neg (by decide), hw, Option.bind_some, impl_PutEntry_eq t e hz (by omega) k (by omega), Option.bind_some, spec_PutEntry_eq t e hz (by omega) k (by omega), Option.bind_some, if_neg (by simp)]
  unfold putOf
  rw [if_pos hok]
  by_cases hp : putOk t e
  · rw [if_pos hp]
    have hok2 := (putOk_iff hok e).2 hp
    have hz2 := sm2_put hs he
    have hpw := treeOk_pair hok
    obtain ⟨i, hi, hie⟩ := mem_gd ((putR_mem e t hpw e).2 (.inl rfl))
    obtain ⟨r, hr, hrc⟩ := FindEntry_eq (putR e t) e.f0 hz2 k (by omega)
    obtain ⟨b, hb1, hb2⟩ := spec_TreeOk_eq (putR e t) hz2 k (by omega)
    rw [if_pos rfl]
    simp only []
    rw [hr, Option.bind_some, hb1, Option.bind_some, if_pos (hb2.2 hok2)]
    rcases hrc with ⟨rfl, hno⟩ | ⟨j, rfl, _, hj, hje⟩
    · exact absurd (by rw [hie]) (hno hok2 i hi)
    · have hij : j = i := risen_inj (treeOk_risen hok2) hj hi (by rw [hje, hie])
      subst hij
      rw [if_neg (by omega), if_pos (by omega), if_pos (by omega), rd_gd, hie, if_neg (by simp)]
      rcases hwc with ⟨rfl, hno⟩ | ⟨q, rfl, _, hq, hqe⟩
      · have hno' : ∀ x ∈ t, x.f0 ≠ e.f0 := fun x hx => by
          obtain ⟨j, hj, hje⟩ := mem_gd hx
          rw [← hje]; exact hno hok j hj
        have hn : ((putR e t).length : Int) = wrap64 ((t.length : Int) + 1) := by rw [putR_new e t hno', wrap64_id (by omega) (by omega)]; omega
        rw [if_pos (by decide), hn]
        simp only [bne_self_eq_false]
        exact TreeBack_j3 t e hok hs he hp _ (.inl ⟨rfl, hno hok⟩) k (by omega)
      · rw [if_neg (by omega)]
        exact TreeBack_j3 t e hok hs he hp _ (.inr (by omega)) k (by omega)
  · rw [if_neg hp, if_neg (by exact Bool.false_ne_true)]
    simp only []
    rw [sameTree_refl t (by omega) k (by omega)]
    rfl
theorem TreeBack_j1 (l : List Int) (hl : (l.length : Int) ≤ 1048576) (t : List S29) (e : S29) (hok : treeOk t) (hs : sm2 t) (he : e.f0.size ≤ 100) (k : Nat) (hk : 3000002 ≤ k) : laws_FnTreeBack.j1 k l t false e.f0 e.f1 e.f2 e.f3 = some true := by
  obtain ⟨k, rfl⟩ : ∃ k', k = k' + 1 := ⟨k - 1, by omega⟩
  obtain ⟨z, hz, hb, hzl⟩ := DrawUnpack_tot l hl k (by omega)
  rw [laws_FnTreeBack.j1, if_neg (by decide), hz, Option.bind_some]
  have hj := TreeBack_j2 t e hok hs he k (by omega)
  rcases impl_tells hb hzl k (by omega) with h | ⟨v, h, hv⟩
  · rcases spec_tells hb hzl k (by omega) with h2 | ⟨v2, h2, hv2⟩
    · rw [h, Option.bind_some, h2, Option.bind_some, if_neg (by exact Bool.false_ne_true), if_neg (by exact Bool.false_ne_true)]
      exact hj
    · have := impl_unpacks hv2 hb (by omega) k (by omega)
      rw [h] at this
      injection this with this
      cases this
  · rw [h, Option.bind_some, spec_unpacks hv hb hzl k (by omega), Option.bind_some, if_neg (by exact Bool.false_ne_true), if_pos rfl]
    rcases pack_both v (smalls_gd hv.2.1) k (by omega) with ⟨_, h1, _⟩ | ⟨h0, _⟩
    · show ((impl_PackTree.f k v).bind _) = _
      rw [h1, Option.bind_some, hv.2.2]
      simp only [bne_self_eq_false]
      exact hj
    · exact absurd hv.1 h0
theorem FnTreeBack_pure (l : List Int) : ∃ k, laws_FnTreeBack.f k l = some true := by
  refine ⟨30000000, ?_⟩
  unfold laws_FnTreeBack.f laws_big.f
  rw [Option.bind_some]
  by_cases hbig : (l.length : Int) > 1048576
  · rw [if_pos (decide_eq_true hbig)]
  have hnil : treeOk ([] : List S29) := ⟨Nat.zero_le _, fun i hi => nomatch hi⟩
  have hs0 : sm2 ([] : List S29) := fun e he => nomatch he
  rw [if_neg (by rw [decide_eq_false hbig]; decide)]
  rcases pack_both [] (smalls_gd (sm2_smalls hs0)) 30000000 (by omega) with ⟨_, h1, _⟩ | ⟨h0, _⟩
  case inr => exact absurd hnil h0
  rw [h1, Option.bind_some, unp_pack hnil hs0 _ (by omega), Option.bind_some, if_pos rfl]
  have hl : (l.length : Int) ≤ 1048576 := by omega
  rw [show (30000000 : Nat) = 29999999 + 1 from rfl, laws_FnTreeBack.j0]
  obtain ⟨t, e, hd, hs, hn, he, _⟩ := DrawPutEntry_tot l hl 29999999 (by omega)
  rw [if_neg (by decide), hd, Option.bind_some]
  obtain ⟨b, hb1, hb2⟩ := spec_TreeOk_eq t (sm2_small hs) 29999999 (by omega)
  rcases pack_both t (smalls_gd (sm2_smalls hs)) 29999999 (by omega) with ⟨hok, h2, _⟩ | ⟨hno, h2, _⟩
  · show ((impl_PackTree.f 29999999 t).bind _) = _
    rw [h2, Option.bind_some]
    show ((spec_TreeOk.f 29999999 t).bind _) = _
    rw [hb1, Option.bind_some, if_pos (hb2.2 hok), unp_pack hok hs _ (by omega), Option.bind_some, if_pos rfl]
    show ((laws_sameTree.f 29999999 t t).bind _) = _
    rw [sameTree_refl t (by omega) _ (by omega), Option.bind_some, if_pos rfl]
    have hplen := packed_len hs 600 hn
    obtain ⟨b2, hi1, hi2⟩ := impl_TreeOk_eq t (sm2_small hs) 29999999 (by omega)
    obtain ⟨x, hx, _⟩ := sum_both (packed t) (by omega) 29999999 (by omega)
    obtain ⟨y, hy, _⟩ := word_both x 29999999 (by omega)
    unfold impl_TreeSum.f
    rw [hi1, Option.bind_some, if_pos (hi2.2 hok), h2, Option.bind_some, hx, Option.bind_some, hy, Option.bind_some, Option.bind_some, Option.bind_some, hy, Option.bind_some]
    simp only [bne_self_eq_false]
    exact TreeBack_j1 l hl t e hok hs he _ (by omega)
  · show ((impl_PackTree.f 29999999 t).bind _) = _
    rw [h2, Option.bind_some]
    show ((spec_TreeOk.f 29999999 t).bind _) = _
    rw [hb1, Option.bind_some, if_neg (fun h => hno (hb2.1 h))]
    rfl
end Go.Proofs.YtjnmcgeahomkeaaDoor.P
end
