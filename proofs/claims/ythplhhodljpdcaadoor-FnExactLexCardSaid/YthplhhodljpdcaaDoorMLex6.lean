/- FnExactLex: the law's row and its card: its walk, the law over lists, and what the arguments read as, joined. Whatever the arguments: the call returns true, and the arguments read as before. Condition: the listed tables hold what the program's text lays (the card ties that). -/
import Derived.ChangeVars
import Derived.LaidSub
import Derived.LaidLaws
import Derived.MakeChecks
import Derived.Lib.LaidTab
import Derived.Test.YthplhhodljpdcaaDoorMLex2
import Derived.Test.YthplhhodljpdcaaDoorMLex3
import Derived.Test.YthplhhodljpdcaaDoorMLex4
import Derived.Test.YthplhhodljpdcaaDoorMLex5
import Derived.Test.YthplhhodljpdcaaDoorCards
import Derived.Test.YthplhhodljpdcaaDoorTie
import Derived.WalkKit
import Derived.ProofKit
import Derived.OpenShut
import Derived.ShutString
import Derived.ChangeOld
import Derived.Below
import Derived.Carry
import Derived.Deep.DeepHandedRow
import Derived.Shelf.Vars
import Derived.Deep.DeepWitnessRowRef

section
set_option linter.unusedVariables false
set_option linter.unusedSimpArgs false
namespace Go.Proofs.YthplhhodljpdcaaDoorM
open Go.RowKit Go.Proofs.YthplhhodljpdcaaDoorW.PrintWords
theorem strs_laid {P : Program} {W : World} {name : String} {g : Nat} {t e : TypeId} {bss : List (List UInt8)} (hg : P.globalNamed name = some g) (hty : (P.globals[g]?).map (·.type) = some t) (ht : P.underlying t = some (.slice e)) (he : P.underlying e = some .string) (hce : P.cellsOf e = 1)
    (h : laidMet P [(name, .slice (bss.map fun b => .lit (.string b)) [])] W) :
    ∃ A c, W.var? P name = some #[.slice A bss.length c] ∧ W.cell? ⟨g, 0, none⟩ = some (.slice A bss.length c) ∧ bss.length ≤ c ∧ Kd.C Kd.string W A bss.length (bss.map fun b => (⟨b.toArray⟩ : ByteArray)) := by
  obtain ⟨ps, ⟨g', t', cs, fuel, p, q, hg', ht', hvar, hd, _, _⟩, _⟩ := h
  obtain rfl := Option.some.inj (hg.symm.trans hg')
  obtain rfl := Option.some.inj (hty.symm.trans ht')
  rcases DataW.trod_slice ht hd with ⟨_, hx⟩ | ⟨a, len, cap, elems, rest, n, _, hcs, hx, hb, hl, hm, hlen, hel, _, _⟩
  · injection hx with hx _; cases hx
  · injection hx with hx _
    injection hx with hx _
    have hll : elems.length = bss.length := by
      have := congrArg List.length hx
      simpa using this.symm
    have hcs2 : cs = #[.slice (some a) bss.length cap] := by
      apply Array.ext'
      rw [hcs, ← hlen, hll]
    have hcell : W.cell? ⟨g, 0, none⟩ = some (.slice (some a) bss.length cap) := by
      have := World.var?_cell hg hvar 0
      rw [this, hcs2]; rfl
    refine ⟨some a, cap, by rw [hvar, hcs2], hcell, by omega, ?_⟩
    refine ⟨by rw [List.length_map], by simp only [maxLen] at hm; omega, fun _ => ⟨a, rfl, fun j s hj => ?_⟩⟩
    have hjl : j < bss.length := by
      have := (List.getElem?_eq_some_iff.1 hj).1
      simpa using this
    have h1 := hel j (by omega)
    rw [List.getElem?_eq_getElem (by omega), Option.bind_eq_some_iff] at h1
    obtain ⟨c, hc, h2⟩ := h1
    obtain ⟨s', rfl, hpair, _⟩ := DataW.trod_string he h2
    have h3 : (elems.map (·.1))[j]? = some (.lit (.string s'.data.toList)) := by
      rw [List.getElem?_map, List.getElem?_eq_getElem (by omega), Option.map_some, hpair]
    rw [← hx, List.getElem?_map, List.getElem?_eq_getElem hjl] at h3
    simp only [Option.map_some, Option.some.injEq, DataW.lit.injEq, Lit.string.injEq] at h3
    rw [List.getElem?_map, List.getElem?_eq_getElem hjl] at hj
    simp only [Option.map_some, Option.some.injEq] at hj
    have hs : s = s' := by
      rw [← hj, h3]
    obtain ⟨_, hcl, hcell2⟩ := World.cells?_some hc
    refine ⟨[.string s], rfl, rfl, fun i u hu => ?_⟩
    have hi : i = 0 := by
      have := (List.getElem?_eq_some_iff.1 hu).1
      simpa using this
    subst hi
    have h4 := hcell2 0 (by omega)
    rw [Addr.add_add, hce] at h4
    show W.cell? (a.add (j * 1 + 0)) = some u
    rw [h4, ← hs]
    exact hu
end Go.Proofs.YthplhhodljpdcaaDoorM
end

section
set_option linter.unusedVariables false
set_option linter.unusedSimpArgs false
namespace Go.Proofs.YthplhhodljpdcaaDoor.P
open Go.RowKit Go.Proofs.YthplhhodljpdcaaDoorW.PrintWords
theorem wrap64_id {n : Int} (h1 : -9223372036854775808 ≤ n) (h2 : n ≤ 9223372036854775807) : wrap64 n = n := by
  unfold wrap64; omega
def bs (s : ByteArray) : List UInt8 := s.data.toList
theorem bs_length (s : ByteArray) : (bs s).length = s.size := data_length s
theorem bs_inj {a b : ByteArray} (h : bs a = bs b) : a = b := by
  cases a; cases b
  simp only [bs] at h
  congr 1
  exact Array.ext' h
theorem bt_nat (s : ByteArray) (i : Nat) (h : i < s.size) : bt s (i : Int) = (((bs s)[i]'(by rw [bs_length]; exact h)).toNat : Int) := by
  unfold bt
  rw [dif_pos (by simpa using h)]
  simp [bs, ByteArray.getElem_eq_getElem_data]
theorem bs_extract (s : ByteArray) (a b : Nat) : bs (s.extract a b) = ((bs s).drop a).take (b - a) := Lib.extract_data s a b
end Go.Proofs.YthplhhodljpdcaaDoor.P
end

section
set_option linter.unusedVariables false
set_option linter.unusedSimpArgs false
namespace Go.Proofs.YthplhhodljpdcaaDoor.P
open Go.RowKit Go.Proofs.YthplhhodljpdcaaDoorW.PrintWords
def isL (c : Int) : Bool := decide ((97 ≤ c ∧ c ≤ 122) ∨ (65 ≤ c ∧ c ≤ 90))
def isD (c : Int) : Bool := decide (48 ≤ c ∧ c ≤ 57)
theorem impl_letter_eq (c : Int) : impl_letter.f c = some (isL c) := by
  unfold impl_letter.f isL
  repeat' split
  all_goals (congr 1; first | (rw [decide_eq_decide]; omega) | (symm; rw [decide_eq_true_iff]; omega) | (symm; rw [decide_eq_false_iff_not]; omega))
theorem impl_digit_eq (c : Int) : impl_digit.f c = some (isD c) := by
  unfold impl_digit.f isD
  repeat' split
  all_goals (congr 1; first | (rw [decide_eq_decide]; omega) | (symm; rw [decide_eq_true_iff]; omega) | (symm; rw [decide_eq_false_iff_not]; omega))
theorem spec_l1Letter_eq (c : Int) : spec_l1Letter.f c = some (isL c) := by
  unfold spec_l1Letter.f isL
  repeat' split
  all_goals (congr 1; first | (rw [decide_eq_decide]; omega) | (symm; rw [decide_eq_true_iff]; omega) | (symm; rw [decide_eq_false_iff_not]; omega))
theorem spec_l1Digit_eq (c : Int) : spec_l1Digit.f c = some (isD c) := by
  unfold spec_l1Digit.f isD
  repeat' split
  all_goals (congr 1; first | (rw [decide_eq_decide]; omega) | (symm; rw [decide_eq_true_iff]; omega) | (symm; rw [decide_eq_false_iff_not]; omega))
end Go.Proofs.YthplhhodljpdcaaDoor.P
end

section
set_option linter.unusedVariables false
set_option linter.unusedSimpArgs false
namespace Go.Proofs.YthplhhodljpdcaaDoor.P
open Go.RowKit Go.Proofs.YthplhhodljpdcaaDoorW.PrintWords Go.Proofs.YthplhhodljpdcaaDoorW.PrintLast Go.Proofs.YthplhhodljpdcaaDoorM
def isDb (c : UInt8) : Bool := isD (c.toNat : Int)
def numOf : List UInt8 → Nat → Nat
  | [], acc => acc
  | c :: r, acc => numOf r (acc * 10 + (c.toNat - 48))
theorem digit_rng {c : UInt8} (h : isDb c = true) : 48 ≤ c.toNat ∧ c.toNat ≤ 57 := by
  unfold isDb isD at h
  have := of_decide_eq_true h
  omega
theorem numOf_ge : ∀ (l : List UInt8) (n : Nat), n ≤ numOf l n
  | [], n => Nat.le_refl _
  | c :: l, n => by
    rw [numOf]
    exact Nat.le_trans (by omega) (numOf_ge l _)
theorem numOf_big : ∀ (l : List UInt8) (n : Nat), n * 10 ^ l.length ≤ numOf l n
  | [], n => by simp [numOf]
  | c :: l, n => by
    rw [numOf, List.length_cons, Nat.pow_succ]
    refine Nat.le_trans ?_ (numOf_big l _)
    rw [Nat.mul_comm (10 ^ l.length) 10, ← Nat.mul_assoc]
    exact Nat.mul_le_mul_right _ (by omega)
theorem numOf_zeros : ∀ (l : List UInt8), numOf (l.dropWhile (· == 48)) 0 = numOf l 0
  | [] => rfl
  | c :: l => by
    rw [List.dropWhile_cons]
    by_cases h : (c == 48) = true
    · rw [if_pos h, numOf_zeros l, numOf]
      have hc : c = 48 := by simpa using h
      subst hc
      rfl
    · rw [if_neg h]
theorem parseUintM_ok : ∀ (d : List UInt8) (acc n : Nat), (∀ c ∈ d, isDb c = true) → acc < 10 ^ n → n + d.length ≤ 17 → Lib.parseUintM 18446744073709551615 acc d = .ok (numOf d acc) ∧ numOf d acc < 100000000000000000
  | [], acc, n, _, h, hn => ⟨rfl, Nat.lt_of_lt_of_le h (Nat.le_trans (Nat.pow_le_pow_right (by decide) (show n ≤ 17 by simpa using hn)) (by decide))⟩
  | c :: d, acc, n, hd, h, hn => by
    have hc := digit_rng (hd c List.mem_cons_self)
    have h16 : acc < 10000000000000000 := Nat.lt_of_lt_of_le h (Nat.le_trans (Nat.pow_le_pow_right (by decide) (show n ≤ 16 by simp at hn; omega)) (by decide))
    have ih := parseUintM_ok d (acc * 10 + (c.toNat - 48)) (n + 1) (fun x hx => hd x (List.mem_cons_of_mem _ hx)) (by rw [Nat.pow_succ]; omega) (by simp at hn ⊢; omega)
    rw [Lib.parseUintM, if_pos hc, if_neg (by omega), if_neg (by omega)]
    exact ih
theorem parseInt_ok (s : ByteArray) (h1 : 1 ≤ s.size) (h2 : s.size ≤ 17) (hd : ∀ c ∈ bs s, isDb c = true) : strconv_ParseInt.f s 10 64 = some (((numOf (bs s) 0 : Nat) : Int), none) := by
  have hl := bs_length s
  unfold strconv_ParseInt.f
  rw [if_pos ⟨rfl, rfl, by omega⟩]
  change (match Lib.parseIntB 64 (bs s) with | .ok v => some (v, none) | _ => none) = _
  generalize bs s = l at hd hl ⊢
  cases l with
  | nil => simp at hl; omega
  | cons c r =>
    obtain ⟨h3, h4⟩ := parseUintM_ok (c :: r) 0 0 hd (by decide) (by omega)
    have hc := digit_rng (hd c List.mem_cons_self)
    have e : Lib.parseIntB 64 (c :: r) = .ok ((numOf (c :: r) 0 : Nat) : Int) := by
      unfold Lib.parseIntB
      simp only []
      rw [if_neg (by omega)]
      unfold Lib.parseUintB
      rw [if_neg (by simp)]
      rw [show (2 ^ 64 - 1 : Nat) = 18446744073709551615 from by decide, h3]
      simp only []
      rw [if_neg (by rintro ⟨_, h⟩; exact absurd (Nat.le_trans (show (2 ^ 63 : Nat) ≤ 2 ^ (64 - 1) from Nat.le_refl _) h) (by omega)), if_neg (by rintro ⟨h, _⟩; omega), if_neg (by omega)]
    rw [e]
abbrev One := Int × ByteArray × Int × Int × Int
def agree (s : ByteArray) (i : Nat) (a b : Option One) : Prop := ∃ x y, a = some x ∧ b = some y ∧ ((x.2.2.2.2 = 0 ∧ y.2.2.2.2 = -1) ∨
  ∃ n : Nat, 0 < n ∧ i + n ≤ s.size ∧ x.2.2.2.2 = (n : Int) ∧ y.2.2.2.2 = ((i + n : Nat) : Int) ∧ x.1 = y.1 ∧ x.2.1 = y.2.1 ∧ x.2.2.1 = y.2.2.1 ∧ x.2.2.2.1 = y.2.2.2.1)
theorem w1 (s : ByteArray) (hs : s.size ≤ 20000) (j : Nat) (h : j ≤ s.size) : wrap64 ((j : Int) + 1) = ((j + 1 : Nat) : Int) := by rw [wrap64_id (by omega) (by omega)]; push_cast; rfl
theorem wd (s : ByteArray) (hs : s.size ≤ 20000) (i j : Nat) (hi : i ≤ j) (h : j ≤ s.size) : wrap64 ((j : Int) - (i : Int)) = ((j - i : Nat) : Int) := by rw [wrap64_id (by omega) (by omega)]; omega
def wb (c : Int) : Bool := isL c || (isD c || (c == 95 || (c == 45 || c == 39)))
theorem spec_wb (c : Int) : spec_l2WordByte.f c = some (wb c) := by
  unfold spec_l2WordByte.f wb
  rw [spec_l1Letter_eq, Option.bind_some]
  cases isL c
  · rw [if_neg (by decide), spec_l1Digit_eq, Option.bind_some]
    cases isD c
    · rw [if_neg (by decide)]
      by_cases h1 : c = 95
      · subst h1; rfl
      · rw [if_neg h1]
        by_cases h2 : c = 45
        · subst h2; rfl
        · rw [if_neg h2]
          have e1 : (c == 95) = false := by simpa using h1
          have e2 : (c == 45) = false := by simpa using h2
          rw [e1, e2]; rfl
    · rfl
  · rfl
theorem word_end (s : ByteArray) (hs : s.size ≤ 20000) (i j : Nat) (hi : i < j) (hj : j ≤ s.size) (at_ : Int) :
    agree s i (if (wrap64 ((j : Int) - (i : Int))) > 60 then (some (0, (⟨#[]⟩ : ByteArray), 0, at_, 0)) else (if 0 ≤ (i : Int) then (if (i : Int) ≤ (j : Int) then (if (j : Int) ≤ (s.size : Int) then (some (1, s.extract ((i : Int) : Int).toNat ((j : Int) : Int).toNat, 0, at_, wrap64 ((j : Int) - (i : Int)))) else (none)) else (none)) else (none)))
      (if (wrap64 ((j : Int) - (i : Int))) > 60 then (some (0, (⟨#[]⟩ : ByteArray), 0, at_, (-1))) else (if 0 ≤ (i : Int) then (if (i : Int) ≤ (j : Int) then (if (j : Int) ≤ (s.size : Int) then (some (1, s.extract ((i : Int) : Int).toNat ((j : Int) : Int).toNat, 0, at_, (j : Int))) else (none)) else (none)) else (none))) := by
  rw [wd s hs i j (by omega) hj]
  by_cases h : ((j - i : Nat) : Int) > 60
  · rw [if_pos h, if_pos h]
    exact ⟨_, _, rfl, rfl, .inl ⟨rfl, rfl⟩⟩
  · rw [if_neg h, if_neg h, if_pos (by omega), if_pos (by omega), if_pos (by omega), if_pos (by omega), if_pos (by omega), if_pos (by omega)]
    refine ⟨_, _, rfl, rfl, .inr ⟨j - i, by omega, by omega, rfl, ?_, rfl, rfl, rfl, rfl⟩⟩
    show (j : Int) = _
    omega
theorem word_both (s : ByteArray) (hs : s.size ≤ 20000) (i : Nat) (at_ : Int) : ∀ (n j k k' : Nat), j + n = s.size → n < k → n < k' → i ≤ j → (i < j ∨ (j < s.size ∧ wb (bt s (j : Int)) = true)) →
    agree s i (impl_one.l0 k s (i : Int) (j : Int) 0 (⟨#[]⟩ : ByteArray) 0 at_) (spec_l2One.l0 k' s (i : Int) (j : Int) 0 (⟨#[]⟩ : ByteArray) 0 at_)
  | 0, j, k, k', hj, hk, hk', hi, h => by
    obtain ⟨k, rfl⟩ : ∃ q, k = q + 1 := ⟨k - 1, by omega⟩
    obtain ⟨k', rfl⟩ : ∃ q, k' = q + 1 := ⟨k' - 1, by omega⟩
    rw [impl_one.l0, spec_l2One.l0, if_neg (show ¬ ((j : Int) < (s.size : Int)) by omega), if_neg (show ¬ ((j : Int) < (s.size : Int)) by omega)]
    exact word_end s hs i j (by omega) (by omega) at_
  | n + 1, j, k, k', hj, hk, hk', hi, h => by
    obtain ⟨k, rfl⟩ : ∃ q, k = q + 1 := ⟨k - 1, by omega⟩
    obtain ⟨k', rfl⟩ : ∃ q, k' = q + 1 := ⟨k' - 1, by omega⟩
    have ih := word_both s hs i at_ n (j + 1) k k' (by omega) (by omega) (by omega) (by omega) (.inl (by omega))
    have p1 : (j : Int) < (s.size : Int) := by omega
    have p2 : 0 ≤ (j : Int) := by omega
    rw [impl_one.l0, spec_l2One.l0]
    simp only [if_pos p1, if_pos p2]
    rw [spec_wb, Option.bind_some, impl_letter_eq, Option.bind_some, w1 s hs j (by omega)]
    cases hw : wb (bt s (j : Int)) with
    | true =>
      rw [if_pos rfl]
      unfold wb at hw
      cases h1 : isL (bt s (j : Int)) with
      | true => rw [if_pos rfl]; exact ih
      | false =>
        rw [if_neg (by decide), impl_digit_eq, Option.bind_some]
        cases h2 : isD (bt s (j : Int)) with
        | true => rw [if_pos rfl]; exact ih
        | false =>
          rw [if_neg (by decide)]
          rw [h1, h2] at hw
          simp only [Bool.false_or, Bool.or_eq_true, beq_iff_eq] at hw
          by_cases h3 : bt s (j : Int) = 95
          · rw [if_pos h3]; exact ih
          · rw [if_neg h3]
            by_cases h4 : bt s (j : Int) = 45
            · rw [if_pos h4]; exact ih
            · rw [if_neg h4, if_pos (by omega)]; exact ih
    | false =>
      have hij : i < j := by
        rcases h with h | ⟨_, h⟩
        · exact h
        · rw [hw] at h; cases h
      unfold wb at hw
      simp only [Bool.or_eq_false_iff, beq_eq_false_iff_ne] at hw
      obtain ⟨h1, h2, h3, h4, h5⟩ := hw
      simp only [h1, h2, impl_digit_eq, Option.bind_some, Bool.false_eq_true, if_false, if_neg h3, if_neg h4, if_neg h5]
      exact word_end s hs i j hij (by omega) at_
theorem acc_step (N c : Nat) (hN : N ≤ 9007199254740992) (h1 : 48 ≤ c) (h2 : c ≤ 57) : wrap64 (wrap64 ((N : Int) * 10) + (((c : Nat) : Int) - 48) % 256) = ((N * 10 + (c - 48) : Nat) : Int) := by
  have e1 : wrap64 ((N : Int) * 10) = (N : Int) * 10 := wrap64_id (by omega) (by omega)
  rw [e1]
  clear e1
  rw [wrap64_id (by omega) (by omega)]
  omega
theorem spec_digits (s : ByteArray) (hs : s.size ≤ 20000) (at_ : Int) (T : ByteArray) : ∀ (n j k N : Nat), j + n = s.size → 2 * n + 2 ≤ k → N ≤ 9007199254740992 →
    (9007199254740992 < numOf (((bs s).drop j).takeWhile isDb) N → ∃ y : One, spec_l2One.l1 k s (j : Int) 0 T (N : Int) at_ = some y ∧ y.2.2.2.2 = -1) ∧
    (numOf (((bs s).drop j).takeWhile isDb) N ≤ 9007199254740992 → spec_l2One.l1 k s (j : Int) 0 T (N : Int) at_ = some (2, T, ((numOf (((bs s).drop j).takeWhile isDb) N : Nat) : Int), at_, ((j + (((bs s).drop j).takeWhile isDb).length : Nat) : Int)))
  | 0, j, k, N, hj, hk, hN => by
    obtain ⟨k, rfl⟩ : ∃ q, k = q + 2 := ⟨k - 2, by omega⟩
    have hd : (bs s).drop j = [] := List.drop_eq_nil_of_le (by rw [bs_length]; omega)
    rw [hd]
    refine ⟨fun h => ?_, fun _ => ?_⟩
    · simp only [List.takeWhile_nil, numOf] at h; omega
    · rw [show k + 2 = (k + 1) + 1 from rfl, spec_l2One.l1, if_neg (by omega), spec_l2One.j3, if_neg (by decide)]
      simp [numOf]
  | n + 1, j, k, N, hj, hk, hN => by
    obtain ⟨k, rfl⟩ : ∃ q, k = q + 2 := ⟨k - 2, by omega⟩
    have hjl : j < (bs s).length := by rw [bs_length]; omega
    have hb := bt_nat s j (by omega)
    have hstep : (bs s).drop j = (bs s)[j] :: (bs s).drop (j + 1) := List.drop_eq_getElem_cons hjl
    have p1 : (j : Int) < (s.size : Int) := by omega
    have p2 : 0 ≤ (j : Int) := by omega
    rw [hstep, List.takeWhile_cons]
    rw [show k + 2 = (k + 1) + 1 from rfl, spec_l2One.l1]
    simp only [if_pos p1, if_pos p2]
    rw [spec_l1Digit_eq, Option.bind_some, hb, show isD (((bs s)[j].toNat : Nat) : Int) = isDb (bs s)[j] from rfl]
    cases hc : isDb (bs s)[j] with
    | false =>
      simp only [Bool.false_eq_true, if_false]
      refine ⟨fun h => ?_, fun _ => ?_⟩
      · simp only [numOf] at h; omega
      · rw [spec_l2One.j3, if_neg (by decide)]
        simp [numOf]
    | true =>
      simp only [if_true]
      have hr := digit_rng hc
      rw [spec_l2One.j3]
      simp only [if_true, if_pos p1, if_pos p2]
      rw [hb, acc_step N (bs s)[j].toNat hN hr.1 hr.2, w1 s hs j (by omega)]
      simp only [numOf, List.length_cons]
      have hge := numOf_ge (((bs s).drop (j + 1)).takeWhile isDb) (N * 10 + ((bs s)[j].toNat - 48))
      by_cases hbig : ((N * 10 + ((bs s)[j].toNat - 48) : Nat) : Int) > 9007199254740992
      · rw [if_pos hbig]
        refine ⟨fun _ => ⟨_, rfl, rfl⟩, fun h => absurd h ?_⟩
        generalize numOf (((bs s).drop (j + 1)).takeWhile isDb) (N * 10 + ((bs s)[j].toNat - 48)) = M at hge ⊢
        omega
      · rw [if_neg hbig]
        have ih := spec_digits s hs at_ T n (j + 1) k (N * 10 + ((bs s)[j].toNat - 48)) (by omega) (by omega) (by omega)
        rw [show j + ((((bs s).drop (j + 1)).takeWhile isDb).length + 1) = j + 1 + (((bs s).drop (j + 1)).takeWhile isDb).length by omega]
        exact ih
theorem impl_digits (s : ByteArray) (hs : s.size ≤ 20000) (i : Nat) (at_ : Int) (T : ByteArray) : ∀ (n j k : Nat), j + n = s.size → n + 2 ≤ k →
    ∃ k', k ≤ k' + n + 1 ∧ impl_one.l1 k s (i : Int) (j : Int) 0 T 0 at_ = impl_one.j3 k' s (i : Int) ((j + (((bs s).drop j).takeWhile isDb).length : Nat) : Int) 0 T 0 at_
  | 0, j, k, hj, hk => by
    obtain ⟨k, rfl⟩ : ∃ q, k = q + 1 := ⟨k - 1, by omega⟩
    have hd : (bs s).drop j = [] := List.drop_eq_nil_of_le (by rw [bs_length]; omega)
    rw [hd, impl_one.l1, if_neg (by omega)]
    exact ⟨k, by omega, rfl⟩
  | n + 1, j, k, hj, hk => by
    obtain ⟨k, rfl⟩ : ∃ q, k = q + 1 := ⟨k - 1, by omega⟩
    have hjl : j < (bs s).length := by rw [bs_length]; omega
    have hb := bt_nat s j (by omega)
    have hstep : (bs s).drop j = (bs s)[j] :: (bs s).drop (j + 1) := List.drop_eq_getElem_cons hjl
    have p1 : (j : Int) < (s.size : Int) := by omega
    have p2 : 0 ≤ (j : Int) := by omega
    rw [hstep, List.takeWhile_cons, impl_one.l1]
    simp only [if_pos p1, if_pos p2]
    rw [impl_digit_eq, Option.bind_some, hb, show isD (((bs s)[j].toNat : Nat) : Int) = isDb (bs s)[j] from rfl]
    cases hc : isDb (bs s)[j] with
    | false =>
      simp only [Bool.false_eq_true, if_false]
      exact ⟨k, by omega, rfl⟩
    | true =>
      simp only [if_true]
      rw [w1 s hs j (by omega)]
      obtain ⟨k', hk', h⟩ := impl_digits s hs i at_ T n (j + 1) k (by omega) (by omega)
      refine ⟨k', by omega, ?_⟩
      rw [h, List.length_cons, show j + 1 + (((bs s).drop (j + 1)).takeWhile isDb).length = j + ((((bs s).drop (j + 1)).takeWhile isDb).length + 1) by omega]
theorem mem_tw (p : UInt8 → Bool) : ∀ (l : List UInt8) (c : UInt8), c ∈ l.takeWhile p → p c = true
  | [], c, h => by cases h
  | a :: l, c, h => by
    rw [List.takeWhile_cons] at h
    split at h
    · rcases List.mem_cons.1 h with rfl | h
      · assumption
      · exact mem_tw p l c h
    · cases h
theorem tw_len (p : UInt8 → Bool) (l : List UInt8) : (l.takeWhile p).length ≤ l.length := (List.takeWhile_sublist p).length_le
theorem tw_take (p : UInt8 → Bool) (l : List UInt8) : l.take (l.takeWhile p).length = l.takeWhile p := by
  conv => lhs; arg 2; rw [← List.takeWhile_append_dropWhile (p := p) (l := l)]
  rw [List.take_left]
theorem extract_tw (s : ByteArray) (p : UInt8 → Bool) (i : Nat) : bs (s.extract i (i + (((bs s).drop i).takeWhile p).length)) = ((bs s).drop i).takeWhile p := by
  rw [bs_extract, Nat.add_sub_cancel_left, tw_take]
theorem num_both (s : ByteArray) (hs : s.size ≤ 20000) (i : Nat) (at_ : Int) (hi : i < s.size) (hd : isDb ((bs s)[i]'(by rw [bs_length]; exact hi)) = true) (k k' : Nat) (hk : 50000 ≤ k) (hk' : 50000 ≤ k') :
    agree s i (impl_one.l1 k s (i : Int) (i : Int) 0 (⟨#[]⟩ : ByteArray) 0 at_) (spec_l2One.l1 k' s (i : Int) 0 (⟨#[]⟩ : ByteArray) 0 at_) := by
  have hil : i < (bs s).length := by rw [bs_length]; exact hi
  obtain ⟨k1, hk1, h1⟩ := impl_digits s hs i at_ (⟨#[]⟩ : ByteArray) (s.size - i) i k (by omega) (by omega)
  obtain ⟨h2, h3⟩ := spec_digits s hs at_ (⟨#[]⟩ : ByteArray) (s.size - i) i k' 0 (by omega) (by omega) (by decide)
  rw [h1]
  have H2 := Aside0.mk h2
  have H3 := Aside0.mk h3
  clear h2 h3 h1
  have hex := extract_tw s isDb i
  have hmem := mem_tw isDb ((bs s).drop i)
  have hpos : 0 < (((bs s).drop i).takeWhile isDb).length := by
    rw [List.drop_eq_getElem_cons hil, List.takeWhile_cons, if_pos hd]; simp
  have hle : i + (((bs s).drop i).takeWhile isDb).length ≤ s.size := by
    have := tw_len isDb ((bs s).drop i)
    rw [List.length_drop, bs_length] at this
    omega
  generalize hD : ((bs s).drop i).takeWhile isDb = D at *
  obtain ⟨k1, rfl⟩ : ∃ q, k1 = q + 1 := ⟨k1 - 1, by omega⟩
  have htl : strings_TrimLeft.f (s.extract i (i + D.length)) (⟨#[48]⟩ : ByteArray) = some ⟨(D.dropWhile (· == 48)).toArray⟩ := by
    unfold strings_TrimLeft.f
    rw [if_pos rfl]
    show some (ByteArray.mk (Lib.trimLeftB (bs (s.extract i (i + D.length))) 48).toArray) = _
    rw [hex]; rfl
  have hdz := numOf_zeros D
  have hdm : ∀ c ∈ D.dropWhile (· == 48), isDb c = true := fun c hc => hmem c ((List.dropWhile_sublist _).subset hc)
  have hdh : ∀ c r, D.dropWhile (· == 48) = c :: r → c ≠ 48 := fun c r e he => by
    have := List.head?_dropWhile_not (fun (x : UInt8) => x == 48) D
    rw [e] at this
    simp [he] at this
  have hsz : (ByteArray.mk (D.dropWhile (· == 48)).toArray).size = (D.dropWhile (· == 48)).length := by simp [ByteArray.size]
  rw [impl_one.j3, if_pos (by omega), if_pos (by omega), if_pos (by omega), Int.toNat_natCast, Int.toNat_natCast, htl, Option.bind_some, hsz]
  generalize hd2 : D.dropWhile (· == 48) = d at *
  by_cases hlong : (d.length : Int) > 16
  · rw [if_pos hlong]
    have hbig : 9007199254740992 < numOf D 0 := by
      rw [← hdz]
      cases d with
      | nil => simp at hlong
      | cons c r =>
        have hc := digit_rng (hdm c List.mem_cons_self)
        have hc0 : c.toNat ≠ 48 := fun e => hdh c r rfl (by apply UInt8.toNat_inj.1; exact e)
        rw [numOf]
        have h4 := numOf_big r (0 * 10 + (c.toNat - 48))
        have h5 : 10 ^ 16 ≤ 10 ^ r.length := Nat.pow_le_pow_right (by decide) (by simp at hlong; omega)
        have h6 : 1 * 10 ^ r.length ≤ (0 * 10 + (c.toNat - 48)) * 10 ^ r.length := Nat.mul_le_mul_right _ (by omega)
        have h7 : (10 : Nat) ^ 16 = 10000000000000000 := by decide
        generalize 10 ^ r.length = p at h4 h5 h6
        omega
    obtain ⟨y, hy1, hy2⟩ := H2.out hbig
    exact ⟨_, _, rfl, hy1, .inl ⟨rfl, hy2⟩⟩
  · rw [if_neg hlong, if_pos (by omega)]
    have hbs : bs ((⟨#[48]⟩ : ByteArray) ++ ⟨d.toArray⟩) = 48 :: d := by
      simp [bs, ByteArray.data_append]
    have hpi := parseInt_ok ((⟨#[48]⟩ : ByteArray) ++ ⟨d.toArray⟩) (by rw [← bs_length, hbs]; simp) (by rw [← bs_length, hbs]; simp; omega) (by
      rw [hbs]
      intro c hc
      rcases List.mem_cons.1 hc with rfl | hc
      · rfl
      · exact hdm c hc)
    have hnum : numOf (48 :: d) 0 = numOf D 0 := by rw [← hdz, numOf]; rfl
    rw [hpi, Option.bind_some, hbs, hnum]
    simp only []
    by_cases hbig : 9007199254740992 < numOf D 0
    · rw [if_pos (by omega)]
      obtain ⟨y, hy1, hy2⟩ := H2.out hbig
      exact ⟨_, _, rfl, hy1, .inl ⟨rfl, hy2⟩⟩
    · rw [if_neg (by omega), wd s hs i _ (by omega) hle]
      refine ⟨_, _, rfl, H3.out (by omega), .inr ⟨D.length, hpos, hle, ?_, rfl, rfl, rfl, rfl, rfl⟩⟩
      show ((i + D.length - i : Nat) : Int) = _
      omega
end Go.Proofs.YthplhhodljpdcaaDoor.P
end

section
set_option linter.unusedVariables false
set_option linter.unusedSimpArgs false
namespace Go.Proofs.YthplhhodljpdcaaDoor.P
open Go.RowKit Go.Proofs.YthplhhodljpdcaaDoorW.PrintWords Go.Proofs.YthplhhodljpdcaaDoorW.PrintLast Go.Proofs.YthplhhodljpdcaaDoorM
theorem bt_rng (s : ByteArray) (j : Nat) (h : j < s.size) : 0 ≤ bt s (j : Int) ∧ bt s (j : Int) < 256 := by
  rw [bt_nat s j h]
  have := ((bs s)[j]'(by rw [bs_length]; exact h)).toNat_lt
  omega
def escAt (c : Int) : Int := if c = 110 then 0 else if c = 116 then 1 else if c = 34 then 2 else if c = 92 then 3 else -1
theorem esc_u8 : ∀ c : UInt8, Lib.indexByte [110, 116, 34, 92] c = escAt (c.toNat : Int) := by
  intro c
  have h := c.toNat_lt
  have e : c = UInt8.ofNat c.toNat := by simp
  unfold escAt
  by_cases h1 : c = 110
  · subst h1; rfl
  by_cases h2 : c = 116
  · subst h2; rfl
  by_cases h3 : c = 34
  · subst h3; rfl
  by_cases h4 : c = 92
  · subst h4; rfl
  have f1 : ((110 : UInt8) == c) = false := by simpa using fun e => h1 e.symm
  have f2 : ((116 : UInt8) == c) = false := by simpa using fun e => h2 e.symm
  have f3 : ((34 : UInt8) == c) = false := by simpa using fun e => h3 e.symm
  have f4 : ((92 : UInt8) == c) = false := by simpa using fun e => h4 e.symm
  have n1 : c.toNat ≠ 110 := fun e => h1 (UInt8.toNat_inj.1 e)
  have n2 : c.toNat ≠ 116 := fun e => h2 (UInt8.toNat_inj.1 e)
  have n3 : c.toNat ≠ 34 := fun e => h3 (UInt8.toNat_inj.1 e)
  have n4 : c.toNat ≠ 92 := fun e => h4 (UInt8.toNat_inj.1 e)
  rw [if_neg (by omega), if_neg (by omega), if_neg (by omega), if_neg (by omega)]
  simp only [Lib.indexByte, f1, f2, f3, f4, Bool.false_eq_true, if_false, beq_self_eq_true, if_true]
theorem esc_at (s : ByteArray) (j : Nat) (h : j < s.size) : strings_IndexByte.f (⟨#[110, 116, 34, 92]⟩ : ByteArray) (bt s (j : Int)) = some (escAt (bt s (j : Int))) := by
  unfold strings_IndexByte.f
  rw [bt_nat s j h]
  have e : (((bs s)[j]'(by rw [bs_length]; exact h)).toNat : Int).toNat.toUInt8 = (bs s)[j]'(by rw [bs_length]; exact h) := by
    rw [Int.toNat_natCast]; simp
  rw [e]
  exact congrArg some (esc_u8 _)
theorem text_over (s : ByteArray) (hs : s.size ≤ 20000) (i : Int) (at_ : Int) : ∀ (n j k : Nat) (out : List Int), s.size ≤ j + n → j ≤ s.size + 1 → n + 1 ≤ k → 4000 < out.length → out.length ≤ j →
    ∃ x : One, impl_one.l2 k s i out (j : Int) 0 (⟨#[]⟩ : ByteArray) 0 at_ = some x ∧ x.2.2.2.2 = 0
  | n, j, k, out, hj, hjs, hk, ho, hoj => by
    obtain ⟨k, rfl⟩ : ∃ q, k = q + 1 := ⟨k - 1, by omega⟩
    rw [impl_one.l2]
    by_cases hend : (j : Int) < (s.size : Int)
    case neg => rw [if_neg hend]; exact ⟨_, rfl, rfl⟩
    have hjl : j < s.size := by omega
    have p2 : 0 ≤ (j : Int) := by omega
    obtain ⟨n, rfl⟩ : ∃ q, n = q + 1 := ⟨n - 1, by omega⟩
    have hb := bt_rng s j hjl
    have hw := w1 s hs j (by omega)
    rw [if_pos hend, if_pos p2, hw]
    clear hw
    by_cases hq : bt s (j : Int) = 34
    · rw [if_pos hq, if_pos (by omega)]; exact ⟨_, rfl, rfl⟩
    rw [if_neg hq]
    by_cases hbs : bt s (j : Int) = 92
    · rw [if_pos hbs]
      by_cases hl : ((j + 1 : Nat) : Int) = (s.size : Int)
      · rw [if_pos hl]; exact ⟨_, rfl, rfl⟩
      have hj1 : j + 1 < s.size := by omega
      have hw2 := w1 s hs (j + 1) (by omega)
      rw [if_neg hl, if_pos (by omega), if_pos (by omega), esc_at s (j + 1) hj1, Option.bind_some, hw2]
      clear hw2
      by_cases hneg : escAt (bt s ((j + 1 : Nat) : Int)) < 0
      · rw [if_pos hneg]; exact ⟨_, rfl, rfl⟩
      have h4 : escAt (bt s ((j + 1 : Nat) : Int)) < 4 := by unfold escAt; split <;> (try split) <;> (try split) <;> (try split) <;> decide
      rw [if_neg hneg, if_pos (by omega), if_pos h4, if_pos (by omega)]
      exact text_over s hs i at_ n (j + 1 + 1) k _ (by omega) (by omega) (by omega) (by rw [List.length_append]; omega) (by rw [List.length_append]; simp; omega)
    · rw [if_neg hbs]
      by_cases hlow : bt s (j : Int) < 32
      · rw [if_pos hlow]; exact ⟨_, rfl, rfl⟩
      rw [if_neg hlow, if_pos (by omega)]
      exact text_over s hs i at_ n (j + 1) k _ (by omega) (by omega) (by omega) (by rw [List.length_append]; omega) (by rw [List.length_append]; simp; omega)
theorem text_both (s : ByteArray) (hs : s.size ≤ 20000) (i : Nat) (at_ : Int) : ∀ (n j k k' : Nat) (out : List Int), s.size ≤ j + n → j ≤ s.size + 1 → i < j → n + 1 ≤ k → 2 * n + 1 ≤ k' → out.length ≤ 4000 → out.length ≤ j →
    ∃ (x : One) (y : ByteArray × Int), impl_one.l2 k s (i : Int) out (j : Int) 0 (⟨#[]⟩ : ByteArray) 0 at_ = some x ∧ spec_l2Text.l0 k' s out (j : Int) = some y ∧
      ((x.2.2.2.2 = 0 ∧ y.2 = -1) ∨ ∃ m : Nat, 0 < m ∧ i + m ≤ s.size ∧ x = (3, y.1, 0, at_, (m : Int)) ∧ y.2 = ((i + m : Nat) : Int))
  | n, j, k, k', out, hj, hjs, hij, hk, hk', ho, hoj => by
    obtain ⟨k, rfl⟩ : ∃ q, k = q + 1 := ⟨k - 1, by omega⟩
    obtain ⟨k', rfl⟩ : ∃ q, k' = q + 1 := ⟨k' - 1, by omega⟩
    rw [impl_one.l2, spec_l2Text.l0]
    by_cases hend : (j : Int) < (s.size : Int)
    case neg => rw [if_neg hend, if_neg hend]; exact ⟨_, _, rfl, rfl, .inl ⟨rfl, rfl⟩⟩
    have hjl : j < s.size := by omega
    have p2 : 0 ≤ (j : Int) := by omega
    obtain ⟨n, rfl⟩ : ∃ q, n = q + 1 := ⟨n - 1, by omega⟩
    obtain ⟨k', rfl⟩ : ∃ q, k' = q + 1 := ⟨k' - 1, by omega⟩
    have hb := bt_rng s j hjl
    have hw := w1 s hs j (by omega)
    simp only [if_pos hend, if_pos p2]
    rw [hw]
    clear hw
    by_cases hq : bt s (j : Int) = 34
    · rw [if_pos hq, if_pos hq, if_neg (by omega), wd s hs i (j + 1) (by omega) (by omega)]
      refine ⟨_, _, rfl, rfl, .inr ⟨j + 1 - i, by omega, by omega, rfl, ?_⟩⟩
      show ((j + 1 : Nat) : Int) = _
      omega
    rw [if_neg hq, if_neg hq]
    by_cases hlow : bt s (j : Int) < 32
    · have hbs : ¬ bt s (j : Int) = 92 := by omega
      rw [if_neg hbs, if_pos hlow, if_pos hlow, spec_l2Text.j1, if_pos rfl]
      exact ⟨_, _, rfl, rfl, .inl ⟨rfl, rfl⟩⟩
    simp only [if_neg hlow]
    rw [spec_l2Text.j1]
    by_cases hfull : out.length = 4000
    · -- the specification stops here; the program goes on and stops later
      have e : ((out.length : Int) == 4000) = true := by rw [hfull]; rfl
      simp only [e, if_true]
      by_cases hbs : bt s (j : Int) = 92
      · rw [if_pos hbs]
        by_cases hl : ((j + 1 : Nat) : Int) = (s.size : Int)
        · rw [if_pos hl]; exact ⟨_, _, rfl, rfl, .inl ⟨rfl, rfl⟩⟩
        have hj1 : j + 1 < s.size := by omega
        have hw2 := w1 s hs (j + 1) (by omega)
        rw [if_neg hl, if_pos (by omega), if_pos (by omega), esc_at s (j + 1) hj1, Option.bind_some, hw2]
        clear hw2
        by_cases hneg : escAt (bt s ((j + 1 : Nat) : Int)) < 0
        · rw [if_pos hneg]; exact ⟨_, _, rfl, rfl, .inl ⟨rfl, rfl⟩⟩
        have h4 : escAt (bt s ((j + 1 : Nat) : Int)) < 4 := by unfold escAt; split <;> (try split) <;> (try split) <;> (try split) <;> decide
        rw [if_neg hneg, if_pos (by omega), if_pos h4, if_pos (by omega)]
        obtain ⟨x, hx1, hx2⟩ := text_over s hs (i : Int) at_ n (j + 1 + 1) k (out ++ [bt (⟨#[10, 9, 34, 92]⟩ : ByteArray) (escAt (bt s ((j + 1 : Nat) : Int)))]) (by omega) (by omega) (by omega) (by rw [List.length_append]; simp; omega) (by rw [List.length_append]; simp; omega)
        exact ⟨x, _, hx1, rfl, .inl ⟨hx2, rfl⟩⟩
      · rw [if_neg hbs, if_pos (by omega)]
        obtain ⟨x, hx1, hx2⟩ := text_over s hs (i : Int) at_ n (j + 1) k (out ++ [bt s (j : Int)]) (by omega) (by omega) (by omega) (by rw [List.length_append]; simp; omega) (by rw [List.length_append]; simp; omega)
        exact ⟨x, _, hx1, rfl, .inl ⟨hx2, rfl⟩⟩
    · have e : ((out.length : Int) == 4000) = false := by simp; omega
      simp only [e, Bool.false_eq_true, if_false]
      by_cases hbs : bt s (j : Int) = 92
      · have hw1 := w1 s hs j (by omega)
        rw [if_pos hbs, if_pos hbs, hw1]
        clear hw1
        by_cases hl : ((j + 1 : Nat) : Int) = (s.size : Int)
        · rw [if_pos hl, if_pos hl]; exact ⟨_, _, rfl, rfl, .inl ⟨rfl, rfl⟩⟩
        have hj1 : j + 1 < s.size := by omega
        have q1 : 0 ≤ ((j + 1 : Nat) : Int) := by omega
        have q2 : ((j + 1 : Nat) : Int) < (s.size : Int) := by omega
        have q3 : out.length < 140737488355328 := by omega
        have hw2 := w1 s hs (j + 1) (by omega)
        simp only [if_neg hl, if_pos q1, if_pos q2, if_pos q3]
        rw [esc_at s (j + 1) hj1, Option.bind_some, hw2]
        clear hw2
        have ih : ∀ c : Int, _ := fun c => text_both s hs i at_ n (j + 1 + 1) k k' (out ++ [c]) (by omega) (by omega) (by omega) (by omega) (by omega) (by rw [List.length_append]; simp; omega) (by rw [List.length_append]; simp; omega)
        by_cases h1 : bt s ((j + 1 : Nat) : Int) = 110
        · rw [h1, if_pos rfl]; exact ih 10
        rw [if_neg h1]
        by_cases h2 : bt s ((j + 1 : Nat) : Int) = 116
        · rw [h2, if_pos rfl]; exact ih 9
        rw [if_neg h2]
        by_cases h3 : bt s ((j + 1 : Nat) : Int) = 34
        · rw [h3, if_pos rfl]; exact ih 34
        rw [if_neg h3]
        by_cases h4 : bt s ((j + 1 : Nat) : Int) = 92
        · rw [h4, if_pos rfl, hbs]; exact ih 92
        rw [if_neg h4]
        have he : escAt (bt s ((j + 1 : Nat) : Int)) = -1 := by unfold escAt; rw [if_neg h1, if_neg h2, if_neg h3, if_neg h4]
        rw [he, if_pos (by decide)]
        exact ⟨_, _, rfl, rfl, .inl ⟨rfl, rfl⟩⟩
      · have q3 : out.length < 140737488355328 := by omega
        have hw1 := w1 s hs j (by omega)
        rw [if_neg hbs, if_neg hbs, if_pos q3, if_pos q3, hw1]
        clear hw1
        exact text_both s hs i at_ n (j + 1) k k' (out ++ [bt s (j : Int)]) (by omega) (by omega) (by omega) (by omega) (by omega) (by rw [List.length_append]; simp; omega) (by rw [List.length_append]; simp; omega)
end Go.Proofs.YthplhhodljpdcaaDoor.P
end

section
set_option linter.unusedVariables false
set_option linter.unusedSimpArgs false
namespace Go.Proofs.YthplhhodljpdcaaDoor.P
open Go.RowKit Go.Proofs.YthplhhodljpdcaaDoorW.PrintWords Go.Proofs.YthplhhodljpdcaaDoorW.PrintLast Go.Proofs.YthplhhodljpdcaaDoorM
theorem size_one (c : Int) : (strOfNums [c]).size = 1 := rfl
theorem laws_markText_l0 : ∀ (n k : Nat) (x : Int) (s : ByteArray), n + 1 ≤ k → x < 10 ^ n → s.size + n ≤ 1000 → ∃ r, laws_markText.l0 k x s = some r := by
  intro n
  induction n with
  | zero =>
    intro k x s hk hx hs
    obtain ⟨k, rfl⟩ : ∃ k', k = k' + 1 := ⟨k - 1, by omega⟩
    rw [laws_markText.l0, if_neg (by simp at hx; omega), if_pos (by omega)]
    exact ⟨_, rfl⟩
  | succ n ih =>
    intro k x s hk hx hs
    obtain ⟨k, rfl⟩ : ∃ k', k = k' + 1 := ⟨k - 1, by omega⟩
    rw [laws_markText.l0]
    by_cases h : x > 0
    · rw [if_pos h, Option.bind_some, size_one, if_pos (by omega)]
      refine ih k _ _ (by omega) ?_ (by rw [ByteArray.size_append, size_one]; omega)
      rw [Int.tdiv_eq_ediv_of_nonneg (by omega)]
      have h1 : x / 10 < 10 ^ n := by rw [Int.pow_succ] at hx; omega
      by_cases h2 : x / 10 ≤ 9223372036854775807
      · rw [wrap64_id (by omega) h2]; exact h1
      · unfold wrap64; omega
    · rw [if_neg h, if_pos (by omega)]
      exact ⟨_, rfl⟩
theorem laws_markText_eq (k : Nat) (x : Int) (hx : x < 10000000000) (hk : 11 ≤ k) : ∃ r, laws_markText.f k x = some r := by
  unfold laws_markText.f
  by_cases h : x ≤ 0
  · rw [if_pos h]; exact ⟨_, rfl⟩
  · rw [if_neg h]; exact laws_markText_l0 10 k x _ hk hx (by decide)
def mt (a : Int) : ByteArray := (laws_markText.f 11 a).getD ByteArray.empty
theorem markText_mt (k : Nat) (a : Int) (ha : a < 10000000000) (hk : 11 ≤ k) : laws_markText.f k a = some (mt a) := by
  obtain ⟨r, hr⟩ := laws_markText_eq 11 a ha (Nat.le_refl _)
  have h2 := at_rounds (fun k => laws_markText.mono a k) hk hr
  rw [h2]
  unfold mt
  rw [hr]; rfl
end Go.Proofs.YthplhhodljpdcaaDoor.P
end

section
set_option linter.unusedVariables false
set_option linter.unusedSimpArgs false
namespace Go.Proofs.YthplhhodljpdcaaDoor.P
open Go.RowKit Go.Proofs.YthplhhodljpdcaaDoorW.PrintWords Go.Proofs.YthplhhodljpdcaaDoorW.PrintLast Go.Proofs.YthplhhodljpdcaaDoorM
theorem sign_size (q : Nat) (h : q < 29) : 1 ≤ (rdOf ByteArray.empty signsL (q : Int)).size ∧ (rdOf ByteArray.empty signsL (q : Int)).size ≤ 3 := by
  have : ∀ q : Fin 29, 1 ≤ (rdOf ByteArray.empty signsL (q.val : Int)).size ∧ (rdOf ByteArray.empty signsL (q.val : Int)).size ≤ 3 := by decide
  exact this ⟨q, h⟩
theorem ext_ext (s : ByteArray) (i n : Nat) (h : i + n ≤ s.size) : (s.extract i s.size).extract 0 n = s.extract i (i + n) := by
  apply bs_inj
  rw [bs_extract, bs_extract, bs_extract, List.drop_zero, Nat.sub_zero, List.take_take, Nat.add_sub_cancel_left, Nat.min_eq_left (by omega)]
theorem has_sign (s : ByteArray) (hs : s.size ≤ 20000) (i : Nat) (hi : i ≤ s.size) (g : ByteArray) :
    strings_HasPrefix.f (s.extract i s.size) g = some (decide (i + g.size ≤ s.size ∧ (s.extract i (i + g.size)).toList = g.toList)) := by
  unfold strings_HasPrefix.f stringslite_HasPrefix.f
  have hsz : (s.extract i s.size).size = s.size - i := by rw [ByteArray.size_extract]; omega
  rw [hsz]
  by_cases h : i + g.size ≤ s.size
  · rw [if_pos (by omega), if_pos (by omega), if_pos (by omega), Option.bind_some, Int.toNat_natCast, ext_ext s i g.size h]
    congr 1
    by_cases he : (s.extract i (i + g.size)).toList = g.toList
    · rw [he, decide_eq_true ⟨h, rfl⟩]; simp
    · rw [decide_eq_false (fun hh => he hh.2)]; simpa using he
  · rw [if_neg (by omega), Option.bind_some, decide_eq_false (fun hh => h hh.1)]
theorem signs_both (s : ByteArray) (hs : s.size ≤ 20000) (i : Nat) (hi : i ≤ s.size) (at_ : Int) : ∀ (n q k k' : Nat), q + n = 29 → n < k → n < k' →
    agree s i (impl_one.l3 k s (i : Int) signsL (signsL.length : Int) (q : Int) 0 (⟨#[]⟩ : ByteArray) 0 at_) (spec_l2One.l2 k' s (i : Int) signsL (q : Int) 0 (⟨#[]⟩ : ByteArray) 0 at_)
  | 0, q, k, k', hq, hk, hk' => by
    obtain ⟨k, rfl⟩ : ∃ z, k = z + 1 := ⟨k - 1, by omega⟩
    obtain ⟨k', rfl⟩ : ∃ z, k' = z + 1 := ⟨k' - 1, by omega⟩
    have hl : signsL.length = 29 := rfl
    have p : ¬ ((q : Int) < (signsL.length : Int)) := by omega
    rw [impl_one.l3, spec_l2One.l2]
    simp only [if_neg p]
    exact ⟨_, _, rfl, rfl, .inl ⟨rfl, rfl⟩⟩
  | n + 1, q, k, k', hq, hk, hk' => by
    obtain ⟨k, rfl⟩ : ∃ z, k = z + 1 := ⟨k - 1, by omega⟩
    obtain ⟨k', rfl⟩ : ∃ z, k' = z + 1 := ⟨k' - 1, by omega⟩
    have hl : signsL.length = 29 := rfl
    have p : (q : Int) < (signsL.length : Int) := by omega
    have p0 : 0 ≤ (q : Int) := by omega
    have p1 : 0 ≤ (i : Int) := by omega
    have p2 : (i : Int) ≤ (s.size : Int) := by omega
    have hw : wrap64 ((q : Int) + 1) = ((q + 1 : Nat) : Int) := by rw [wrap64_id (by omega) (by omega)]; push_cast; rfl
    have ih := signs_both s hs i hi at_ n (q + 1) k k' (by omega) (by omega) (by omega)
    have hg := sign_size q (by omega)
    rw [impl_one.l3, spec_l2One.l2]
    simp only [if_pos p, if_pos p0, if_pos p1, if_pos p2, hw]
    clear hw
    generalize rdOf ByteArray.empty signsL (q : Int) = g at hg ⊢
    have hw2 : wrap64 ((i : Int) + (g.size : Int)) = ((i + g.size : Nat) : Int) := by rw [wrap64_id (by omega) (by omega)]; push_cast; rfl
    rw [hw2, Int.toNat_natCast, Int.toNat_natCast, has_sign s hs i hi g, Option.bind_some]
    clear hw2
    by_cases h : i + g.size ≤ s.size
    · have h1 : ((i + g.size : Nat) : Int) ≤ (s.size : Int) := by omega
      have h2 : (i : Int) ≤ ((i + g.size : Nat) : Int) := by omega
      rw [if_pos h1, if_pos h2]
      by_cases he : (s.extract i (i + g.size)).toList = g.toList
      · rw [if_pos he, decide_eq_true ⟨h, he⟩, if_pos rfl]
        exact ⟨_, _, rfl, rfl, .inr ⟨g.size, by omega, h, rfl, rfl, rfl, rfl, rfl, rfl⟩⟩
      · rw [if_neg he, decide_eq_false (fun hh => he hh.2), if_neg (by decide)]
        exact ih
    · have h1 : ¬ ((i + g.size : Nat) : Int) ≤ (s.size : Int) := by omega
      rw [if_neg h1, decide_eq_false (fun hh => h hh.1), if_neg (by decide)]
      exact ih
theorem one_j0 (s : ByteArray) (hs : s.size ≤ 20000) (i : Nat) (hi : i < s.size) (b : Bool) (hb : b = (isL (bt s (i : Int)) || bt s (i : Int) == 95)) (k k' : Nat) (hk : 60000 ≤ k) (hk' : 60000 ≤ k') :
    agree s i (impl_one.j0 k s (i : Int) (bt s (i : Int)) b 0 (⟨#[]⟩ : ByteArray) 0 (i : Int)) (spec_l2One.j0 k' s (i : Int) (bt s (i : Int)) (i : Int) b 0 (⟨#[]⟩ : ByteArray) 0 (i : Int)) := by
  obtain ⟨k, rfl⟩ : ∃ z, k = z + 1 := ⟨k - 1, by omega⟩
  obtain ⟨k', rfl⟩ : ∃ z, k' = z + 1 := ⟨k' - 1, by omega⟩
  rw [impl_one.j0, spec_l2One.j0]
  cases b with
  | true =>
    simp only [if_true]
    refine word_both s hs i (i : Int) (s.size - i) i k k' (by omega) (by omega) (by omega) (by omega) (.inr ⟨hi, ?_⟩)
    unfold wb
    have := hb.symm
    rw [Bool.or_eq_true] at this
    rcases this with h | h
    · rw [h]; rfl
    · rw [h]; simp
  | false =>
    simp only [Bool.false_eq_true, if_false, impl_digit_eq, spec_l1Digit_eq, Option.bind_some]
    have hbn := bt_nat s i hi
    cases hd : isD (bt s (i : Int)) with
    | true =>
      simp only [if_true]
      refine num_both s hs i (i : Int) hi ?_ k k' (by omega) (by omega)
      unfold isDb
      rw [← hbn]; exact hd
    | false =>
      simp only [Bool.false_eq_true, if_false]
      by_cases hq : bt s (i : Int) = 34
      · simp only [if_pos hq]
        have hw := w1 s hs i (by omega)
        unfold spec_l2Text.f
        rw [hw]
        clear hw
        obtain ⟨x, y, h1, h2, h3⟩ := text_both s hs i (i : Int) (s.size + 2) (i + 1) k k' [] (by omega) (by omega) (by omega) (by omega) (by omega) (by simp) (by simp)
        rw [h1, h2, Option.bind_some]
        refine ⟨_, _, rfl, rfl, ?_⟩
        rcases h3 with ⟨h4, h5⟩ | ⟨m, h4, h5, h6, h7⟩
        · exact .inl ⟨h4, h5⟩
        · subst h6
          exact .inr ⟨m, h4, h5, rfl, h7, rfl, rfl, rfl, rfl⟩
      · simp only [if_neg hq]
        have hsg : spec_l2Signs.f = some signsL := rfl
        rw [hsg, Option.bind_some]
        exact signs_both s hs i (by omega) (i : Int) 29 0 k k' rfl (by omega) (by omega)
theorem one_both (s : ByteArray) (hs : s.size ≤ 20000) (i : Nat) (hi : i < s.size) (k k' : Nat) (hk : 60000 ≤ k) (hk' : 60000 ≤ k') : agree s i (impl_one.f k s (i : Int)) (spec_l2One.f k' s (i : Int)) := by
  have p0 : 0 ≤ (i : Int) := by omega
  have p1 : (i : Int) < (s.size : Int) := by omega
  unfold impl_one.f spec_l2One.f
  simp only [if_pos p0, if_pos p1]
  rw [impl_letter_eq, spec_l1Letter_eq, Option.bind_some, Option.bind_some]
  cases h : isL (bt s (i : Int)) with
  | true =>
    simp only [if_true]
    exact one_j0 s hs i hi true (by rw [h]; rfl) k k' hk hk'
  | false =>
    simp only [Bool.false_eq_true, if_false]
    exact one_j0 s hs i hi _ (by rw [h]; rfl) k k' hk hk'
def L0 (s : ByteArray) (n i : Nat) : Prop := ∀ (k k' : Nat) (acc : List S30), 60103 + 5 * n ≤ k → 60103 + 5 * n ≤ k' → acc.length ≤ i →
  ∃ r, impl_Lex.l0 k s acc (i : Int) = some r ∧ spec_Lex.l0 k' s acc (i : Int) = some r ∧ r.1.length ≤ s.size
def L1 (s : ByteArray) (n i : Nat) : Prop := ∀ (k k' : Nat) (acc : List S30), 60104 + 5 * n ≤ k → 60104 + 5 * n ≤ k' → acc.length ≤ i →
  ∃ r, impl_Lex.l1 k s acc (i : Int) = some r ∧ spec_Lex.l1 k' s acc (i : Int) = some r ∧ r.1.length ≤ s.size
theorem L1_of (s : ByteArray) (hs : s.size ≤ 20000) (n i : Nat) (hi : i ≤ s.size) (h0 : L0 s n i) (hn : i < s.size → ∃ m, n = m + 1 ∧ L1 s m (i + 1)) : L1 s n i := by
  intro k k' acc hk hk' ha
  obtain ⟨k, rfl⟩ : ∃ z, k = z + 1 := ⟨k - 1, by omega⟩
  obtain ⟨k', rfl⟩ : ∃ z, k' = z + 1 := ⟨k' - 1, by omega⟩
  rw [impl_Lex.l1, spec_Lex.l1]
  by_cases hlt : (i : Int) < (s.size : Int)
  case neg => simp only [if_neg hlt]; exact h0 k k' acc (by omega) (by omega) ha
  have p0 : 0 ≤ (i : Int) := by omega
  have hw := w1 s hs i (by omega)
  simp only [if_pos hlt, if_pos p0, hw]
  clear hw
  by_cases h10 : bt s (i : Int) = 10
  · simp only [if_pos h10]; exact h0 k k' acc (by omega) (by omega) ha
  · simp only [if_neg h10]
    obtain ⟨m, rfl, h1⟩ := hn (by omega)
    exact h1 k k' acc (by omega) (by omega) (by omega)
theorem L0_of (s : ByteArray) (hs : s.size ≤ 20000) (n i : Nat) (hi : i ≤ s.size) (hn : i < s.size → ∃ m, n = m + 1 ∧ L1 s m (i + 1) ∧ ∀ j, i < j → j ≤ s.size → L0 s m j) : L0 s n i := by
  intro k k' acc hk hk' ha
  obtain ⟨k, rfl⟩ : ∃ z, k = z + 2 := ⟨k - 2, by omega⟩
  obtain ⟨k', rfl⟩ : ∃ z, k' = z + 2 := ⟨k' - 2, by omega⟩
  rw [show k + 2 = (k + 1) + 1 from rfl, show k' + 2 = (k' + 1) + 1 from rfl, impl_Lex.l0, spec_Lex.l0]
  by_cases hlt : (i : Int) < (s.size : Int)
  case neg => simp only [if_neg hlt]; exact ⟨_, rfl, rfl, by show acc.length ≤ _; omega⟩
  have hil : i < s.size := by omega
  obtain ⟨m, rfl, h1, h0⟩ := hn hil
  have p0 : 0 ≤ (i : Int) := by omega
  have HW := Aside0.mk (w1 s hs i (by omega))
  have hbl : spec_l2Blank.f (bt s (i : Int)) = some (decide (bt s (i : Int) = 32 ∨ bt s (i : Int) = 9 ∨ bt s (i : Int) = 10)) := by
    unfold spec_l2Blank.f
    by_cases a1 : bt s (i : Int) = 32
    · rw [if_pos a1, decide_eq_true (.inl a1)]
    · rw [if_neg a1]
      by_cases a2 : bt s (i : Int) = 9
      · rw [if_pos a2, decide_eq_true (.inr (.inl a2))]
      · rw [if_neg a2]
        congr 1
        by_cases a3 : bt s (i : Int) = 10
        · rw [a3]; rfl
        · rw [decide_eq_false (by omega)]; simpa using a3
  have hj : (if (bt s (i : Int)) = 32 then (impl_Lex.j1 (k + 1) s acc (i : Int) (bt s (i : Int)) true) else (if (bt s (i : Int)) = 9 then (impl_Lex.j1 (k + 1) s acc (i : Int) (bt s (i : Int)) true) else (impl_Lex.j1 (k + 1) s acc (i : Int) (bt s (i : Int)) ((bt s (i : Int)) == 10)))) = impl_Lex.j1 (k + 1) s acc (i : Int) (bt s (i : Int)) (decide (bt s (i : Int) = 32 ∨ bt s (i : Int) = 9 ∨ bt s (i : Int) = 10)) := by
    by_cases a1 : bt s (i : Int) = 32
    · rw [if_pos a1, decide_eq_true (.inl a1)]
    · rw [if_neg a1]
      by_cases a2 : bt s (i : Int) = 9
      · rw [if_pos a2, decide_eq_true (.inr (.inl a2))]
      · rw [if_neg a2]
        congr 1
        by_cases a3 : bt s (i : Int) = 10
        · rw [a3]; rfl
        · rw [decide_eq_false (by omega)]; simpa using a3
  simp only [if_pos hlt, if_pos p0]
  rw [hj, hbl, Option.bind_some, impl_Lex.j1, HW.out]
  clear hj hbl
  by_cases hb : bt s (i : Int) = 32 ∨ bt s (i : Int) = 9 ∨ bt s (i : Int) = 10
  · rw [decide_eq_true hb]
    simp only [if_true]
    exact h0 (i + 1) (by omega) (by omega) k (k' + 1) acc (by omega) (by omega) (by omega)
  · rw [decide_eq_false hb]
    simp only [Bool.false_eq_true, if_false]
    by_cases h35 : bt s (i : Int) = 35
    · simp only [if_pos h35]
      obtain ⟨k, rfl⟩ : ∃ z, k = z + 1 := ⟨k - 1, by omega⟩
      rw [impl_Lex.l1, spec_Lex.l1]
      have h10 : ¬ bt s (i : Int) = 10 := by omega
      have hw := w1 s hs i (by omega)
      simp only [if_pos hlt, if_pos p0, if_neg h10, hw]
      clear hw
      exact h1 k k' acc (by omega) (by omega) (by omega)
    · simp only [if_neg h35]
      obtain ⟨x, y, hx, hy, hxy⟩ := one_both s hs i hil k (k' + 1) (by omega) (by omega)
      rw [hx, hy, Option.bind_some, Option.bind_some]
      rcases hxy with ⟨a1, a2⟩ | ⟨q, a1, a2, a3, a4, a5, a6, a7, a8⟩
      · rw [a1, a2]
        exact ⟨_, rfl, rfl, by show acc.length ≤ _; omega⟩
      · have hw2 : wrap64 ((i : Int) + (q : Int)) = ((i + q : Nat) : Int) := by rw [wrap64_id (by omega) (by omega)]; push_cast; rfl
        have HW2 := Aside0.mk hw2
        clear hw2
        have c1 : ¬ x.2.2.2.2 = 0 := by omega
        have c2 : ¬ y.2.2.2.2 < 0 := by omega
        have c3 : acc.length < 3518437208883 := by omega
        simp only [if_neg c1, if_neg c2, if_pos c3]
        rw [a3, a4, HW2.out, a5, a6, a7, a8]
        exact h0 (i + q) (by omega) (by omega) k (k' + 1) _ (by omega) (by omega) (by rw [List.length_append]; simp; omega)
theorem lex_all (s : ByteArray) (hs : s.size ≤ 20000) : ∀ n i, i ≤ s.size → s.size - i ≤ n → L0 s n i ∧ L1 s n i
  | 0, i, hi, hn => by
    have h0 := L0_of s hs 0 i hi (fun h => by omega)
    exact ⟨h0, L1_of s hs 0 i hi h0 (fun h => by omega)⟩
  | n + 1, i, hi, hn => by
    have h0 := L0_of s hs (n + 1) i hi (fun h => ⟨n, rfl, (lex_all s hs n (i + 1) (by omega) (by omega)).2, fun j h1 h2 => (lex_all s hs n j h2 (by omega)).1⟩)
    exact ⟨h0, L1_of s hs (n + 1) i hi h0 (fun h => ⟨n, rfl, (lex_all s hs n (i + 1) (by omega) (by omega)).2⟩)⟩
theorem lex_both (s : ByteArray) : ∃ r, r.1.length ≤ 20000 ∧ ∀ k, 200000 ≤ k → impl_Lex.f k s = some r ∧ spec_Lex.f k s = some r := by
  by_cases hbig : (s.size : Int) > 20000
  · refine ⟨([], 0), by simp, fun k hk => ?_⟩
    unfold impl_Lex.f spec_Lex.f
    rw [Option.bind_some, if_pos hbig, if_pos hbig]
    exact ⟨rfl, rfl⟩
  · have hs : s.size ≤ 20000 := by omega
    have h := (lex_all s hs 20000 0 (by omega) (by omega)).1
    obtain ⟨r, h1, h2, h3⟩ := h 200000 200000 [] (by omega) (by omega) (by simp)
    refine ⟨r, by omega, fun k hk => ?_⟩
    obtain ⟨r', h4, h5, h6⟩ := h k k [] (by omega) (by omega) (by simp)
    have e1 : impl_Lex.f 200000 s = some r := by
      unfold impl_Lex.f
      rw [if_neg hbig]; exact h1
    have e2 : spec_Lex.f 200000 s = some r := by
      unfold spec_Lex.f
      rw [Option.bind_some, if_neg hbig]; exact h2
    exact ⟨at_rounds (fun k => impl_Lex.mono s k) hk e1, at_rounds (fun k => spec_Lex.mono s k) hk e2⟩
def mL1 (a : Nat) : S30 := ⟨(a : Int), mt ((a + 1 : Nat) : Int), ((a + 2 : Nat) : Int), ((a + 3 : Nat) : Int)⟩
def mL (a : Nat) : Nat → List S30
  | 0 => []
  | n + 1 => mL1 a :: mL (a + 4) n
theorem mL_length : ∀ n a, (mL a n).length = n
  | 0, _ => rfl
  | n + 1, a => by rw [mL, List.length_cons, mL_length n]
theorem mL_snoc : ∀ n a, mL a (n + 1) = mL a n ++ [mL1 (a + 4 * n)]
  | 0, a => rfl
  | n + 1, a => by
    rw [mL, mL_snoc n (a + 4), mL, show a + 4 + 4 * n = a + 4 * (n + 1) by omega]
    rfl
theorem mL_rd : ∀ n a i, i < n → rd_T30 (mL a n) (i : Int) = mL1 (a + 4 * i)
  | 0, _, _, h => by omega
  | n + 1, a, 0, _ => rfl
  | n + 1, a, i + 1, h => by
    have := mL_rd n (a + 4) i (by omega)
    unfold rd_T30 at this ⊢
    rw [Int.toNat_natCast] at this ⊢
    rw [mL, List.getD_cons_succ, this, show a + 4 + 4 * i = a + 4 * (i + 1) by omega]
theorem rdL_set (l : List S30) (i : Nat) (v : S30) (h : i < l.length) : rd_T30 (l.set i v) (i : Int) = v := by
  unfold rd_T30
  rw [Int.toNat_natCast, List.getD_eq_getElem?_getD, List.getElem?_set_self h]; rfl
theorem wl (a : Nat) (h : a ≤ 1000000) : wrap64 ((a : Int) + 1) = ((a + 1 : Nat) : Int) := by rw [wrap64_id (by omega) (by omega)]; push_cast; rfl
theorem markL_run : ∀ (n k i : Nat) (t : List S30), i + n ≤ 20000 → n + 15 ≤ k → t.length = n →
    laws_markLexemeS.l0 k (mL 1 i ++ t) ((4 * i + 1 : Nat) : Int) (i : Int) = some (((4 * (i + n) + 1 : Nat) : Int), mL 1 (i + n)) := by
  intro n
  induction n with
  | zero =>
    intro k i t hl hk ht
    obtain ⟨k, rfl⟩ : ∃ k', k = k' + 1 := ⟨k - 1, by omega⟩
    obtain rfl := List.eq_nil_of_length_eq_zero ht
    have hm := mL_length i 1
    rw [laws_markLexemeS.l0, if_neg (by simp [hm])]
    simp
  | succ n ih =>
    intro k i t hl hk ht
    obtain ⟨k, rfl⟩ : ∃ k', k = k' + 1 := ⟨k - 1, by omega⟩
    obtain ⟨x, t, rfl⟩ : ∃ x t', t = x :: t' := by cases t with
      | nil => cases ht
      | cons x t => exact ⟨x, t, rfl⟩
    have hm := mL_length i 1
    have hlen : i < (mL 1 i ++ x :: t).length := by simp [hm]
    rw [laws_markLexemeS.l0, if_pos (by omega), if_pos (by omega), Option.bind_some, Int.toNat_natCast, wl (4 * i + 1) (by omega), markText_mt k _ (by omega) (by omega), Option.bind_some, wl (4 * i + 1 + 1) (by omega), wl (4 * i + 1 + 1 + 1) (by omega), wl (4 * i + 1 + 1 + 1 + 1) (by omega), wl i (by omega)]
    rw [rdL_set _ i _ hlen, List.set_set, Option.bind_some]
    dsimp only
    rw [rdL_set _ i _ hlen, List.set_set, Option.bind_some]
    dsimp only
    rw [rdL_set _ i _ hlen, List.set_set]
    dsimp only
    have e : (mL 1 i ++ x :: t).set i (⟨((4 * i + 1 : Nat) : Int), mt ((4 * i + 1 + 1 : Nat) : Int), ((4 * i + 1 + 1 + 1 : Nat) : Int), ((4 * i + 1 + 1 + 1 + 1 : Nat) : Int)⟩ : S30) = mL 1 (i + 1) ++ t := by
      rw [List.set_append_right _ _ (by omega), hm, Nat.sub_self, List.set_cons_zero, mL_snoc, show 1 + 4 * i = 4 * i + 1 by omega]
      simp [mL1]
      omega
    rw [e, show 4 * i + 1 + 1 + 1 + 1 + 1 = 4 * (i + 1) + 1 by omega, ih k (i + 1) t (by omega) (by omega) (by simpa using ht), show i + 1 + n = i + (n + 1) by omega]
theorem markL_eq (t : List S30) (hl : t.length ≤ 20000) (k : Nat) (hk : t.length + 15 ≤ k) : laws_markLexemeS.f k t 1 = some (((4 * t.length + 1 : Nat) : Int), mL 1 t.length) := by
  have := markL_run t.length k 0 t (by omega) hk rfl
  simpa [laws_markLexemeS.f, mL] using this
theorem heldL_l0 (m : Nat) (hl : m ≤ 20000) : ∀ (n k i : Nat), i + n = m → n + 15 ≤ k → laws_heldLexemeS.l0 k (mL 1 m) ((4 * i + 1 : Nat) : Int) (i : Int) = some ((4 * m + 1 : Nat) : Int) := by
  intro n
  induction n with
  | zero =>
    intro k i hi hk
    obtain ⟨k, rfl⟩ : ∃ k', k = k' + 1 := ⟨k - 1, by omega⟩
    obtain rfl : i = m := by omega
    rw [laws_heldLexemeS.l0, if_neg (by rw [mL_length]; omega)]
  | succ n ih =>
    intro k i hi hk
    obtain ⟨k, rfl⟩ : ∃ k', k = k' + 1 := ⟨k - 1, by omega⟩
    have hr : rd_T30 (mL 1 m) (i : Int) = mL1 (4 * i + 1) := by rw [mL_rd m 1 i (by omega), Nat.add_comm]
    rw [laws_heldLexemeS.l0, if_pos (by rw [mL_length]; omega), if_pos (by omega), hr]
    simp only [mL1, if_true]
    rw [wl (4 * i + 1) (by omega), markText_mt k _ (by omega) (by omega), Option.bind_some, wl (4 * i + 1 + 1) (by omega), wl (4 * i + 1 + 1 + 1) (by omega), wl (4 * i + 1 + 1 + 1 + 1) (by omega), wl i (by omega)]
    simp only [if_true]
    exact ih k (i + 1) (by omega) (by omega)
theorem heldL_eq (m : Nat) (hl : m ≤ 20000) (k : Nat) (hk : m + 15 ≤ k) : laws_heldLexemeS.f k (mL 1 m) 1 = some ((4 * m + 1 : Nat) : Int) :=
  heldL_l0 m hl m k 0 (by omega) hk
theorem eqL_l0 (t : List S30) (hl : t.length ≤ 20000) : ∀ (n k i : Nat), n + 1 ≤ k → i + n = t.length → laws_eqLexemeS.l0 k t t (i : Int) = some true := by
  intro n
  induction n with
  | zero =>
    intro k i hk hi
    obtain ⟨k, rfl⟩ : ∃ k', k = k' + 1 := ⟨k - 1, by omega⟩
    rw [laws_eqLexemeS.l0, if_neg (by omega)]
  | succ n ih =>
    intro k i hk hi
    obtain ⟨k, rfl⟩ : ∃ k', k = k' + 1 := ⟨k - 1, by omega⟩
    rw [laws_eqLexemeS.l0, if_pos (by omega), if_pos (by omega), if_pos (by omega), wl i (by omega)]
    unfold laws_eqLexeme.f
    rw [if_pos rfl, if_pos rfl, if_pos rfl, if_pos rfl, Option.bind_some, if_pos rfl]
    exact ih k (i + 1) (by omega) (by omega)
theorem eqL_refl (t : List S30) (hl : t.length ≤ 20000) (k : Nat) (hk : t.length + 1 ≤ k) : laws_eqLexemeS.f k t t = some true := by
  unfold laws_eqLexemeS.f
  rw [if_pos rfl]
  exact eqL_l0 t hl t.length k 0 hk (by omega)
theorem FnExactLex_pure (s : ByteArray) : ∃ k, laws_FnExactLex.f k s = some true := by
  refine ⟨300000, ?_⟩
  unfold laws_FnExactLex.f
  by_cases hbig : (s.size : Int) > 1048576
  · rw [if_pos hbig]
  rw [if_neg hbig]
  obtain ⟨⟨l, p⟩, hl, h⟩ := lex_both s
  simp only [] at hl
  have hpp : (p != p) = false := by simp
  rw [(h 300000 (by omega)).2, Option.bind_some, (h 300000 (by omega)).1, Option.bind_some, eqL_refl l hl _ (by omega), Option.bind_some, if_pos rfl]
  simp only [hpp]
  rw [show (300000 : Nat) = 299999 + 1 from rfl, laws_FnExactLex.j0, if_neg (by decide), markL_eq l hl _ (by omega), Option.bind_some]
  simp only []
  rw [heldL_eq l.length hl _ (by omega), Option.bind_some, if_neg (by omega), if_pos rfl, (h 299999 (by omega)).1, Option.bind_some, eqL_refl l hl _ (by omega), Option.bind_some, if_pos rfl]
  simp only [hpp]
  rw [show (299999 : Nat) = 299998 + 1 from rfl, laws_FnExactLex.j1, if_neg (by decide), heldL_eq l.length hl _ (by omega), Option.bind_some, if_neg (by omega), if_pos rfl]
end Go.Proofs.YthplhhodljpdcaaDoor.P
end

section
namespace Go.Proofs.YthplhhodljpdcaaDoor.fnExactLex
open Go.ChangeShapes Go.WideShapes Go.ChangeAt Go.RowKit Go.Proofs.YthplhhodljpdcaaDoorM
set_option linter.unusedVariables false
set_option maxRecDepth 100000
theorem own : ownKnob Tryd.prog.godebug = none := by kernel_rfl
theorem laidOut : laidOutB Tryd.prog = true := by kernel_rfl
theorem vName : Tryd.prog.globalNamed "loop.example/g00023/impl.signs" = some 0 := by kernel_rfl
theorem vType : (Tryd.prog.globals[0]?).map (·.type) = some 37 := by kernel_rfl
theorem signs {W : World} (h : laidMetH Tryd.prog Rows.fnExactLexRow.laid W) : ∃ A c, W.var? Tryd.prog "loop.example/g00023/impl.signs" = some #[.slice A signsL.length c] ∧ W.cell? ⟨0, 0, none⟩ = some (.slice A signsL.length c) ∧ signsL.length ≤ c ∧ Go.Proofs.YthplhhodljpdcaaDoorW.PrintWords.Kd.C Go.Proofs.YthplhhodljpdcaaDoorW.PrintWords.Kd.string W A signsL.length signsL := by
  have h1 := laidMetH.filter (fun x => x.1 == "loop.example/g00023/impl.signs") h
  have e : (Rows.fnExactLexRow.laid.filter (fun x => x.1 == "loop.example/g00023/impl.signs")) = [("loop.example/g00023/impl.signs", .slice ((signsL.map (·.data.toList)).map fun b => .lit (.string b)) [])] := by kernel_rfl
  rw [e, Go.MakeChecks.laidMetH_plain _ _ _ (by kernel_rfl)] at h1
  have h2 := strs_laid vName vType Tryd.underlying37 Tryd.underlying9 (by kernel_rfl) h1
  have e1 : (signsL.map (·.data.toList)).map (fun b => (⟨b.toArray⟩ : ByteArray)) = signsL := by kernel_rfl
  rw [e1, List.length_map] at h2
  exact h2
theorem env {W : World} (h : W.ShapedOpen Tryd.prog) (hL : laidMetH Tryd.prog Rows.fnExactLexRow.laid W) : EnvW W :=
  ⟨Go.Proofs.cell_of_shapedOpen_int (zero := #[.int .i64 0]) (t := 3) h (of_decide_eq_true (by kernel_rfl)) (by kernel_rfl) rfl (by kernel_rfl) (by kernel_rfl) Tryd.underlying3, by obtain ⟨A, c, _, h1, h2, h3⟩ := signs hL; exact ⟨A, c, h1, h2, h3⟩⟩
theorem contract (H : Type) (enc : TypeId × Value → H) (W : World) (base : Nat) (args : Array Value) (ds gs : List (DataW H)) (before : List MemPlace)
    (hval0 : ∀ (j : Nat) t v, Tryd.f3.params[j]? = some t → args[j]? = some v → Value.okWide Tryd.prog W .any base t v)
    (hW : DataW.Whole enc Tryd.prog Tryd.f3.params.toList Rows.fnExactLexSpec.vars false W args.toList ds gs before) (hL : laidMetH Tryd.prog Rows.fnExactLexRow.laid W) (hS : W.ShapedOpen Tryd.prog) :
    Calls Tryd.prog 3 args W fun e W' => ∃ v, e = .returned v ∧ Rows.fnExactLexSpec.post enc Tryd.prog Tryd.f3 false true false false W args v W' := by
  have hval := hval0
  have hW' := hW
  obtain ⟨p, q, hA0, hV, rfl, hfz, hnd⟩ := hW
  have hA : DataW.TrodAll enc Tryd.prog W 0 (fun _ => true) true Tryd.f3.params.toList args.toList ds p := hA0
  rw [Tryd.params3] at hA hval
  obtain ⟨v0, vs0, d0, ds0, p0, q0, hargs, rfl, rfl, h0, r0⟩ := trodAll_cons hA
  obtain ⟨rfl, rfl, rfl⟩ := trodAll_nil r0
  obtain rfl : args = #[v0] := by cases args; simp_all
  obtain ⟨g1, t1, cs1, fu1, d1, pp1, rfl, hg1, hty1, hvar1, htr1, rfl⟩ := trodVars_one hV
  obtain rfl : 0 = g1 := Option.some.inj (vName.symm.trans hg1)
  obtain rfl : 37 = t1 := Option.some.inj (vType.symm.trans hty1)
  obtain ⟨As_, cs_, hv_, hc_, _, _⟩ := signs hL
  obtain rfl : #[.slice As_ signsL.length cs_] = cs1 := Option.some.inj (hv_.symm.trans hvar1)
  have ltv : ∀ x ∈ pp1, x.block < W.heap.size := DataW.trod_lt fu1 _ _ _ htr1
  obtain ⟨a0, rfl, rfl, rfl, y0⟩ := Go.ChangeMaps.open_string Tryd.underlying9 (hval 0 9 v0 rfl rfl) h0
  clear hA0 hval0
  obtain ⟨k, hk⟩ := P.FnExactLex_pure a0 
  refine (P.laws_FnExactLex.calls k a0 true W (env hS hL) hk).mono fun e W' ⟨he, bel⟩ => ?_
  have trv := Below.trod laidOut (by kernel_rfl) (of_decide_eq_true (by kernel_rfl)) (show DataW.Trod enc Tryd.prog W 0 (fun _ => true) true 37 (.slice As_ signsL.length cs_) d1 pp1 from ⟨fu1, htr1⟩) bel ltv
  obtain ⟨fu2, htr2⟩ := trv
  have hvar2 : W'.var? Tryd.prog "loop.example/g00023/impl.signs" = some #[.slice As_ signsL.length cs_] := by
    have hb : W'.heap[0]? = W.heap[0]? := bel.block 0 (World.block_lt_of_cell? W _ hc_)
    unfold World.var? at hv_ ⊢
    rw [vName, Option.bind_some] at hv_ ⊢
    rw [hb]
    exact hv_
  subst he
  exact ⟨_, rfl, _, _, _, [], _, _, hW', trodAll_mk1 (shut_bool Tryd.underlying4 _), (trodAll_cons_mk (Go.ChangeMaps.shut_string Tryd.underlying9 y0) trodAll_mk0), trodVars_mk1 vName vType hvar2 htr2, bel.frame _, fun h => by cases h⟩
noncomputable def low : Nat := (World.holding Tryd.prog default ⟨#[], #[], []⟩).heap.size
noncomputable def laidWorld (os : Os) : World :=
  { World.holding Tryd.prog os ⟨#[.cells #[.string ⟨#[118, 97, 108, 117, 101, 32, 111, 117, 116, 32, 111, 102, 32, 114, 97, 110, 103, 101]⟩] 82, .cells #[.string ⟨#[105, 110, 118, 97, 108, 105, 100, 32, 115, 121, 110, 116, 97, 120]⟩] 82, .cells #[.string ⟨#[46, 46, 46]⟩, .string ⟨#[45, 62]⟩, .string ⟨#[47, 47]⟩, .string ⟨#[43, 43]⟩, .string ⟨#[38, 38]⟩, .string ⟨#[124, 124]⟩, .string ⟨#[61, 61]⟩, .string ⟨#[33, 61]⟩, .string ⟨#[60, 61]⟩, .string ⟨#[62, 61]⟩, .string ⟨#[123]⟩, .string ⟨#[125]⟩, .string ⟨#[91]⟩, .string ⟨#[93]⟩, .string ⟨#[40]⟩, .string ⟨#[41]⟩, .string ⟨#[59]⟩, .string ⟨#[58]⟩, .string ⟨#[44]⟩, .string ⟨#[46]⟩, .string ⟨#[63]⟩, .string ⟨#[61]⟩, .string ⟨#[60]⟩, .string ⟨#[62]⟩, .string ⟨#[43]⟩, .string ⟨#[45]⟩, .string ⟨#[42]⟩, .string ⟨#[47]⟩, .string ⟨#[33]⟩] 9], #[], []⟩ with heap := (Array.modify (Array.modify (Array.modify (Array.modify (Array.modify (Array.modify (Array.modify (Array.modify (World.holding Tryd.prog os ⟨#[.cells #[.string ⟨#[118, 97, 108, 117, 101, 32, 111, 117, 116, 32, 111, 102, 32, 114, 97, 110, 103, 101]⟩] 82, .cells #[.string ⟨#[105, 110, 118, 97, 108, 105, 100, 32, 115, 121, 110, 116, 97, 120]⟩] 82, .cells #[.string ⟨#[46, 46, 46]⟩, .string ⟨#[45, 62]⟩, .string ⟨#[47, 47]⟩, .string ⟨#[43, 43]⟩, .string ⟨#[38, 38]⟩, .string ⟨#[124, 124]⟩, .string ⟨#[61, 61]⟩, .string ⟨#[33, 61]⟩, .string ⟨#[60, 61]⟩, .string ⟨#[62, 61]⟩, .string ⟨#[123]⟩, .string ⟨#[125]⟩, .string ⟨#[91]⟩, .string ⟨#[93]⟩, .string ⟨#[40]⟩, .string ⟨#[41]⟩, .string ⟨#[59]⟩, .string ⟨#[58]⟩, .string ⟨#[44]⟩, .string ⟨#[46]⟩, .string ⟨#[63]⟩, .string ⟨#[61]⟩, .string ⟨#[60]⟩, .string ⟨#[62]⟩, .string ⟨#[43]⟩, .string ⟨#[45]⟩, .string ⟨#[42]⟩, .string ⟨#[47]⟩, .string ⟨#[33]⟩] 9], #[], []⟩).heap 7 (fun o => match o with
      | .cells _ t frozen => .cells #[(.int .u8 0), (.int .u8 1), (.int .u8 28), (.int .u8 2), (.int .u8 29), (.int .u8 14), (.int .u8 24), (.int .u8 3), (.int .u8 30), (.int .u8 22), (.int .u8 20), (.int .u8 15), (.int .u8 25), (.int .u8 17), (.int .u8 4), (.int .u8 8), (.int .u8 31), (.int .u8 27), (.int .u8 13), (.int .u8 23), (.int .u8 21), (.int .u8 19), (.int .u8 16), (.int .u8 7), (.int .u8 26), (.int .u8 12), (.int .u8 18), (.int .u8 6), (.int .u8 11), (.int .u8 5), (.int .u8 10), (.int .u8 9)] t frozen
      | o => o)) 8 (fun o => match o with
      | .cells _ t frozen => .cells #[(.int .u8 0), (.int .u8 1), (.int .u8 56), (.int .u8 2), (.int .u8 57), (.int .u8 49), (.int .u8 28), (.int .u8 3), (.int .u8 61), (.int .u8 58), (.int .u8 42), (.int .u8 50), (.int .u8 38), (.int .u8 29), (.int .u8 17), (.int .u8 4), (.int .u8 62), (.int .u8 47), (.int .u8 59), (.int .u8 36), (.int .u8 45), (.int .u8 43), (.int .u8 51), (.int .u8 22), (.int .u8 53), (.int .u8 39), (.int .u8 33), (.int .u8 30), (.int .u8 24), (.int .u8 18), (.int .u8 12), (.int .u8 5), (.int .u8 63), (.int .u8 55), (.int .u8 48), (.int .u8 27), (.int .u8 60), (.int .u8 41), (.int .u8 37), (.int .u8 16), (.int .u8 46), (.int .u8 35), (.int .u8 44), (.int .u8 21), (.int .u8 52), (.int .u8 32), (.int .u8 23), (.int .u8 11), (.int .u8 54), (.int .u8 26), (.int .u8 40), (.int .u8 15), (.int .u8 34), (.int .u8 20), (.int .u8 31), (.int .u8 10), (.int .u8 25), (.int .u8 14), (.int .u8 19), (.int .u8 9), (.int .u8 13), (.int .u8 8), (.int .u8 7), (.int .u8 6)] t frozen
      | o => o)) 6 (fun o => match o with
      | .cells _ t frozen => .cells #[(.int .u64 1), (.int .u64 10), (.int .u64 100), (.int .u64 1000), (.int .u64 10000), (.int .u64 100000), (.int .u64 1000000), (.int .u64 10000000), (.int .u64 100000000), (.int .u64 1000000000), (.int .u64 10000000000), (.int .u64 100000000000), (.int .u64 1000000000000), (.int .u64 10000000000000), (.int .u64 100000000000000), (.int .u64 1000000000000000), (.int .u64 10000000000000000), (.int .u64 100000000000000000), (.int .u64 1000000000000000000), (.int .u64 10000000000000000000)] t frozen
      | o => o)) 5 (fun o => match o with
      | .cells _ t frozen => .cells #[(.int .u8 128), (.int .u8 191), (.int .u8 160), (.int .u8 191), (.int .u8 128), (.int .u8 159), (.int .u8 144), (.int .u8 191), (.int .u8 128), (.int .u8 143), (.int .u8 0), (.int .u8 0), (.int .u8 0), (.int .u8 0), (.int .u8 0), (.int .u8 0), (.int .u8 0), (.int .u8 0), (.int .u8 0), (.int .u8 0), (.int .u8 0), (.int .u8 0), (.int .u8 0), (.int .u8 0), (.int .u8 0), (.int .u8 0), (.int .u8 0), (.int .u8 0), (.int .u8 0), (.int .u8 0), (.int .u8 0), (.int .u8 0)] t frozen
      | o => o)) 2 (fun o => match o with
      | .cells _ t frozen => .cells #[.iface 80 (.pointer (some ⟨low + 0, 0, none⟩))] t frozen
      | o => o)) 1 (fun o => match o with
      | .cells _ t frozen => .cells #[.iface 80 (.pointer (some ⟨low + 1, 0, none⟩))] t frozen
      | o => o)) 0 (fun o => match o with
      | .cells _ t frozen => .cells #[.slice (some ⟨low + 2, 0, none⟩) 29 29] t frozen
      | o => o)) 4 (fun o => match o with
      | .cells _ t frozen => .cells (Pinned.utf8FirstZ.map fun (n : Nat) => Value.int .u8 n).toArray t frozen
      | o => o)) }
theorem laid_met (os : Os) : laidMet Tryd.prog Rows.fnExactLexRow.laid ((laidWorld os).forCall (fun _ _ => 0) ⟨#[], #[.string ByteArray.empty], []⟩).memory :=
  laidMet_of_run' 8 (by kernel_rfl) (by kernel_rfl)
theorem reads (os : Os) {H : Type} (enc : TypeId × Value → H) : ∃ places, DataW.whole enc Tryd.prog ((laidWorld os).forCall (fun _ _ => 0) ⟨#[], #[.string ByteArray.empty], []⟩).memory Tryd.f3.params.toList Rows.fnExactLexSpec.vars false (#[.string ByteArray.empty] : Array Value).toList 8 = some ([.lit (.string [])], [Rows.laid_loop_example_g00023_impl_signs], places) :=
  ⟨MemPlace.row ⟨0, 0, none⟩ 1 ++ MemPlace.row ⟨low + 2, 0, none⟩ 29, by kernel_rfl⟩
theorem lifted (os : Os) (started : os.Started) (H : Type) (enc : TypeId × Value → H) (F : Stop.Interp) :
    ReturnsInHanded {} Tryd.checked os 3 .any ((OpenSpec.ofChange Rows.fnExactLexSpec).preRow enc Tryd.prog Tryd.f3 Rows.fnExactLexRow.domain false Rows.fnExactLexRow.laid) (((OpenSpec.ofChange Rows.fnExactLexSpec).at F).post enc Tryd.prog Tryd.f3 false true false false) := by
  obtain ⟨places, hx⟩ := reads os enc
  refine returnsInHanded_of_row (C := Tryd.checked) (s := OpenSpec.ofChange Rows.fnExactLexSpec) own started (by kernel_rfl) Tryd.func3
    (witness_row_atRef (enc := enc) (C := Tryd.checked) false (laidWorld os) #[.string ByteArray.empty] rfl (by kernel_rfl) (by kernel_rfl) (by kernel_rfl)
      (OpenSpec.preRow_of_cond 8 hx (by kernel_rfl) (fun k hk => by cases hk) (by kernel_rfl) (laid_met os))) ?_
  intro W base args ds gs before hval hW _ _ _ hL hS _
  exact contract H enc W base args ds gs before hval hW hL hS
theorem said : Rows.FnExactLexSaid :=
  OpenClaim.holds_of_cond 3 Tryd.f3 rfl rfl rfl rfl rfl rfl rfl ⟨rfl, rfl, rfl, rfl, rfl⟩ rfl rfl rfl rfl rfl (by kernel_rfl) Tryd.func3 (by kernel_rfl)
    (of_decide_eq_true (by kernel_rfl)) (by unfold Func.isWrapper; first | (rw [if_pos (by decide +kernel)]; kernel_rfl) | (rw [if_neg (by decide +kernel)]; exact ⟨rfl, rfl⟩))
    (fun os started H enc _ F => by rw [OpenClaim.pre_eq_preRow]; exact lifted os started H enc F)
theorem plain (f : FuncId) (fn : Func) (hf : Tryd.pinned.checked.prog.funcNamed "loop.example/g00023/laws.FnExactLex" = some f) (hfn : Tryd.pinned.checked.prog.funcs[f]? = some fn) :
    true = Tryd.pinned.checked.prog.looks [] ∧ ∀ (j : Nat) t, fn.params[j]? = some t → Tryd.pinned.checked.prog.wantsStandIn t = false := by
  obtain rfl : f = 3 := Option.some.inj ((show Tryd.prog.funcNamed "loop.example/g00023/laws.FnExactLex" = some 3 by kernel_rfl).symm.trans hf) |>.symm
  obtain rfl : fn = Tryd.f3 := (Option.some.inj (Tryd.func3.symm.trans hfn)).symm
  refine ⟨by kernel_rfl, fun j t ht => ?_⟩
  rw [Tryd.params3] at ht
  have hm := Array.mem_of_getElem? ht
  simp only [List.mem_toArray, List.mem_cons, List.not_mem_nil, or_false] at hm
  rcases hm with rfl
  · exact (show Tryd.prog.wantsStandIn 9 = false by kernel_rfl)
theorem card : Rows.FnExactLexCardSaid :=
  Claim7.holds_tied_plain_at .later [] _ _ _ _ said (fun _ h => by cases h) (by kernel_rfl) (fun _ h => by cases h) fnExactLex_row_tie rfl ⟨rfl, rfl⟩ (by kernel_rfl) rfl plain (by kernel_rfl)
#print axioms card
end Go.Proofs.YthplhhodljpdcaaDoor.fnExactLex
namespace Go.Proofs.YthplhhodljpdcaaDoor
/-- The card, under a short name, for the claim. -/
theorem fnExactLex_card : Rows.FnExactLexCardSaid := fnExactLex.card
end Go.Proofs.YthplhhodljpdcaaDoor
end
