/- Texts of Trb, put together by program. -/
import Derived.Test.YtjnmcgeahomkeaaDoorMTrb2
import Derived.Test.YtjnmcgeahomkeaaDoorProg
import Derived.Below
import Derived.Deep.Draws
import Derived.Deep.AppendLies
import Derived.Maps.AppendAt
import Derived.OwnWalk
import Derived.Laws.BytesArg
import Derived.Laws.MakeOwn
import Derived.Laws.OwnMore
import Derived.Deep.OwnRows
import Derived.Tactics
import Derived.Lib.ConvBytes
import Derived.Laws.Slices
import Derived.WalkKit
import Derived.KernelRfl
import Derived.RowKit3
import Derived.Deep.LoopGhost
import Derived.Deep.QuietTactic
import Derived.BigQuiet
import Derived.WideLaws
import Derived.Deep.DeepCutAuto
import Derived.Deep.CutBlock
import Derived.Deep.RegionHeld3
import Derived.Laws.Rows
import Derived.Lib.AppendStr
import Derived.ArgAppend
import Derived.Laws.IdiomCopy
import Derived.OrdersHeld
import Derived.Laws.BitsLemmas
import Derived.Lib.Overlaps
import Derived.Lib.AppendZerosOnto
import Derived.RowKit
import Derived.Test.YtjnmcgeahomkeaaDoorMTrb1

section
namespace Go.Proofs.YtjnmcgeahomkeaaDoor.P
open Go.RowKit Go.Proofs.YtjnmcgeahomkeaaDoorW.PrintWords Go.Proofs.YtjnmcgeahomkeaaDoorW.PrintLast Go.Proofs.YtjnmcgeahomkeaaDoorW.PrintMore Go.Proofs.YtjnmcgeahomkeaaDoorM
attribute [local go_sem] max2_int min2_int max_two min_two max_three min_three max_four min_four
set_option linter.unusedVariables false
set_option linter.unusedSimpArgs false
set_option maxHeartbeats 8000000
set_option maxRecDepth 100000
def errW : Option Int → Value
 | none => .nilIface
 | some c => .iface 0 (.int .i64 c)
theorem errW_none : errW none = .nilIface := rfl
theorem errW_some (c : Int) : errW (some c) = .iface 0 (.int .i64 c) := rfl
theorem info5 : (Tryd.prog.info? 5).map (fun i => (i.zero, i.size, i.bytes)) = some (some (.int .u8 0), 1, 1) := by kernel_rfl
theorem info9 : (Tryd.prog.info? 9).map (fun i => (i.zero, i.size, i.bytes)) = some (some (.string ⟨#[]⟩), 1, 16) := by kernel_rfl
theorem info29 : (Tryd.prog.info? 29).map (fun i => (i.zero, i.size, i.bytes)) = some (some (.agg #[(.string ⟨#[]⟩), (.int .i64 0), (.string ⟨#[]⟩), (.bool false)]), 4, 48) := by kernel_rfl
structure S29 where
 f0 : ByteArray
 f1 : Int
 f2 : ByteArray
 f3 : Bool
def z29 : S29 := ⟨(⟨#[]⟩ : ByteArray), (0 : Int), (⟨#[]⟩ : ByteArray), false⟩
def k29 : Kd S29 := Kd.iso (Kd.pair Kd.string (Kd.pair (Kd.int .i64) (Kd.pair Kd.string Kd.bool))) (fun x : S29 => (x.f0, x.f1, x.f2, x.f3))
theorem k29_open {w : World} {x : S29} {cs : List Value} (h : k29.K w x cs) : cs = [.string x.f0, .int .i64 x.f1, .string x.f2, .bool x.f3] := by
 obtain ⟨_, _, rfl, rfl, ⟨_, _, rfl, rfl, ⟨_, _, rfl, rfl, rfl⟩⟩⟩ := h
 exact rfl
theorem k29_openM {w : World} {base : Nat} {ok : Nat → Prop} {x : S29} {cs : List Value} (h : k29.M w base ok x cs) : cs = [.string x.f0, .int .i64 x.f1, .string x.f2, .bool x.f3] := by
 obtain ⟨_, _, rfl, rfl, ⟨_, _, rfl, rfl, ⟨_, _, rfl, rfl, rfl⟩⟩⟩ := h
 exact rfl
theorem k29_mk (w : World) (x : S29)  : k29.K w x [.string x.f0, .int .i64 x.f1, .string x.f2, .bool x.f3] := ⟨[.string x.f0], [.int .i64 x.f1, .string x.f2, .bool x.f3], rfl, rfl, ⟨[.int .i64 x.f1], [.string x.f2, .bool x.f3], rfl, rfl, ⟨[.string x.f2], [.bool x.f3], rfl, rfl, rfl⟩⟩⟩
theorem k29_mkM (w : World) (base : Nat) (ok : Nat → Prop) (x : S29)  : k29.M w base ok x [.string x.f0, .int .i64 x.f1, .string x.f2, .bool x.f3] := ⟨[.string x.f0], [.int .i64 x.f1, .string x.f2, .bool x.f3], rfl, rfl, ⟨[.int .i64 x.f1], [.string x.f2, .bool x.f3], rfl, rfl, ⟨[.string x.f2], [.bool x.f3], rfl, rfl, rfl⟩⟩⟩
def rd_T29 (xs : List S29) (i : Int) : S29 := xs.getD i.toNat z29
theorem at_T29 {w : World} {A : Option Addr} {n : Nat} {xs : List S29} (h : Kd.C k29 w A n xs) (i : Int) (h0 : 0 ≤ i) (h1 : i < n) : ∃ ad , A = some ad ∧ w.cell? (ad.add (i.toNat * 4)) = some (.string (rd_T29 xs i).f0) ∧ w.cell? ⟨(ad.add (i.toNat * 4)).block, (ad.add (i.toNat * 4)).off + 1, none⟩ = some (.int .i64 (rd_T29 xs i).f1) ∧ w.cell? ⟨(ad.add (i.toNat * 4)).block, (ad.add (i.toNat * 4)).off + 2, none⟩ = some (.string (rd_T29 xs i).f2) ∧ w.cell? ⟨(ad.add (i.toNat * 4)).block, (ad.add (i.toNat * 4)).off + 3, none⟩ = some (.bool (rd_T29 xs i).f3) := by
 obtain ⟨ad, c, e, _, hK, hc0⟩ := Kd.C_get h z29 i h0 h1
 have hc : ∀ j u, c[j]? = some u → w.cell? (ad.add (i.toNat * 4 + j)) = some u := hc0
 obtain rfl := k29_open hK
 exact ⟨ad, e, hc 0 _ rfl, by rw [← add_field _ _ 1 (by omega)]; exact hc 1 _ rfl, by rw [← add_field _ _ 2 (by omega)]; exact hc 2 _ rfl, by rw [← add_field _ _ 3 (by omega)]; exact hc 3 _ rfl⟩
def laws_big.f (l0 : List Int) : Option (Bool) := some (decide ((l0.length : Int) > 1048576))
theorem laws_big.calls (A0 : Option Addr) (c0 : Nat) (l0 : List Int) (r : Bool) (w : World) (hr0 : Kd.C (Kd.int .u8) w A0 l0.length l0) (hc0 : l0.length ≤ c0) (h : laws_big.f l0 = some r) :
 Calls Tryd.prog 4 #[.slice A0 l0.length c0] w fun e w' => e = .returned (.bool r) ∧ Drawn0 w w' := by
 have HR0 := Aside0.mk hr0
 have HC0 := Aside0.mk hc0
 clear hr0 hc0
 have H : (some (decide ((l0.length : Int) > 1048576))) = some r := h
 clear h
 obtain rfl := Option.some.inj H
 go_enter Tryd.func4, Tryd.ntmps4
 go_wp2
 go_ret
 exact ⟨eS_, dR_⟩
def strings_Split.f (a0 a1 : ByteArray) : Option (List ByteArray) := if a0.size < 4294967281 then (if 1 ≤ a1.size then some (Lib.splitB a1 0 (Lib.countB a0 a1) a0) else none) else none
theorem strings_Split.calls (a0 a1 : ByteArray) (r : List ByteArray) (w : World) (hE : EnvW w) (h : strings_Split.f a0 a1 = some r) :
 Calls Tryd.prog 61 #[.string a0, .string a1] w fun e w' => ∃ v0_ : Value, e = .returned (v0_) ∧ Kd.R Kd.string 9 w' w.heap.size (fun _ => True) v0_ r ∧ Below w.heap.size w w' := by
 unfold strings_Split.f at h
 split at h
 {
 rename_i hs
 split at h
 {
 rename_i h1
 obtain rfl := Option.some.inj h
 obtain ⟨m, hm⟩ := hE.out
 refine (Tryd.strings_Split a0 a1 m w hs hm h1).mono fun e w' ⟨he, hw⟩ => ⟨_, he, ?_, ?_⟩
 {
 rw [hw]
 exact R_texts w 9 _ _ (splitB_length a1 h1 _ a0 rfl) (splitB_le a1 a0 h1 hs)}
 {
 rw [hw]
 exact below_alloc (Below.refl _ _) _}}
 {
 cases h}}
 {
 cases h}
def impl_letter.f (a0 : Int) : Option (Bool) := if a0 ≥ 97 then (if a0 ≤ 122 then (some true) else (if a0 ≥ 65 then (some (decide (a0 ≤ 90))) else (some false))) else (if a0 ≥ 65 then (some (decide (a0 ≤ 90))) else (some false))
theorem impl_letter.calls (a0 : Int) (r : Bool) (w : World) (h : impl_letter.f a0 = some r) :
 Calls Tryd.prog 70 #[.int .u8 a0] w fun e w' => e = .returned (.bool r) ∧ Drawn0 w w' := by
 have H : (if a0 ≥ 97 then (if a0 ≤ 122 then (some true) else (if a0 ≥ 65 then (some (decide (a0 ≤ 90))) else (some false))) else (if a0 ≥ 65 then (some (decide (a0 ≤ 90))) else (some false))) = some r := h
 clear h
 by_cases c2 : a0 ≥ 97
 {
 rw [if_pos c2] at H
 have c2b0 : decide (97 ≤ a0) = true := decide_eq_true c2
 clear c2
 by_cases c3 : a0 ≤ 122
 {
 rw [if_pos c3] at H
 have c3b0 := decide_eq_true c3
 clear c3
 obtain rfl := Option.some.inj H
 go_enter Tryd.func70, Tryd.ntmps70
 go_wp2
 go_ret
 exact ⟨eS_, dR_⟩}
 {
 rw [if_neg c3] at H
 have c3b0 := decide_eq_false c3
 clear c3
 by_cases c4 : a0 ≥ 65
 {
 rw [if_pos c4] at H
 have c4b0 : decide (65 ≤ a0) = true := decide_eq_true c4
 clear c4
 obtain rfl := Option.some.inj H
 go_enter Tryd.func70, Tryd.ntmps70
 go_wp2
 go_ret
 exact ⟨eS_, dR_⟩}
 {
 rw [if_neg c4] at H
 have c4b0 : decide (65 ≤ a0) = false := decide_eq_false c4
 clear c4
 obtain rfl := Option.some.inj H
 go_enter Tryd.func70, Tryd.ntmps70
 go_wp2
 go_ret
 exact ⟨eS_, dR_⟩}}}
 {
 rw [if_neg c2] at H
 have c2b0 : decide (97 ≤ a0) = false := decide_eq_false c2
 clear c2
 by_cases c5 : a0 ≥ 65
 {
 rw [if_pos c5] at H
 have c5b0 : decide (65 ≤ a0) = true := decide_eq_true c5
 clear c5
 obtain rfl := Option.some.inj H
 go_enter Tryd.func70, Tryd.ntmps70
 go_wp2
 go_ret
 exact ⟨eS_, dR_⟩}
 {
 rw [if_neg c5] at H
 have c5b0 : decide (65 ≤ a0) = false := decide_eq_false c5
 clear c5
 obtain rfl := Option.some.inj H
 go_enter Tryd.func70, Tryd.ntmps70
 go_wp2
 go_ret
 exact ⟨eS_, dR_⟩}}
def impl_digit.f (a0 : Int) : Option (Bool) := if a0 ≥ 48 then (some (decide (a0 ≤ 57))) else (some false)
theorem impl_digit.calls (a0 : Int) (r : Bool) (w : World) (h : impl_digit.f a0 = some r) :
 Calls Tryd.prog 71 #[.int .u8 a0] w fun e w' => e = .returned (.bool r) ∧ Drawn0 w w' := by
 have H : (if a0 ≥ 48 then (some (decide (a0 ≤ 57))) else (some false)) = some r := h
 clear h
 by_cases c2 : a0 ≥ 48
 {
 rw [if_pos c2] at H
 have c2b0 : decide (48 ≤ a0) = true := decide_eq_true c2
 clear c2
 obtain rfl := Option.some.inj H
 go_enter Tryd.func71, Tryd.ntmps71
 go_wp2
 go_ret
 exact ⟨eS_, dR_⟩}
 {
 rw [if_neg c2] at H
 have c2b0 : decide (48 ≤ a0) = false := decide_eq_false c2
 clear c2
 obtain rfl := Option.some.inj H
 go_enter Tryd.func71, Tryd.ntmps71
 go_wp2
 go_ret
 exact ⟨eS_, dR_⟩}
theorem strings_ContainsRune.enc_hi (r : Int) (h0 : 128 ≤ r) (h1 : r ≤ 255) : ∃ x y : UInt8, Utf8.encode r = ⟨#[x, y]⟩ ∧ 128 ≤ y.toNat := by
 obtain ⟨n, rfl⟩ := Int.eq_ofNat_of_zero_le (show 0 ≤ r by omega)
 have hn : n - 128 < 128 := by omega
 have : ∀ k : Fin 128, ∃ x y : UInt8, Utf8.encode ((k.val + 128 : Nat) : Int) = ⟨#[x, y]⟩ ∧ 128 ≤ y.toNat := by
  intro k
  refine ⟨(Utf8.encode ((k.val + 128 : Nat) : Int)).data[0]!, (Utf8.encode ((k.val + 128 : Nat) : Int)).data[1]!, ?_⟩
  revert k
  decide +kernel
 have h := this ⟨n - 128, hn⟩
 rwa [show (n - 128) + 128 = n by omega] at h
set_option maxHeartbeats 2000000 in
set_option maxRecDepth 1000000 in
theorem strings_ContainsRune.index_hi (r : Int) (w : World) (h0 : 128 ≤ r) (h1 : r ≤ 255) :
 Calls Tryd.prog 81 #[.string ⟨#[45, 95, 46, 43]⟩, .int .i32 r] w fun e w' => e = .returned (.int .i64 (-1)) ∧ Drawn0 w w' := by
 have hv : Lib.validRune r = true := by unfold Lib.validRune; simp; omega
 have c1 : decide (r < 128) = false := decide_eq_false (by omega)
 have c2 : (r == 65533) = false := beq_eq_false_iff_ne.2 (by omega)
 obtain ⟨x, y, he, hy⟩ := strings_ContainsRune.enc_hi r h0 h1
 have hy2 : ((95 : Int) != (y.toNat : Int)) = true := by rw [bne_iff_ne]; omega
 have hyb : ((y.toNat : Int)).toNat.toUInt8 = y := by simp
 have hi : Lib.indexByte [46, 43] y = -1 := by
  have a1 : ((46 : UInt8) == y) = false := by rw [beq_eq_false_iff_ne]; rintro rfl; revert hy; decide
  have a2 : ((43 : UInt8) == y) = false := by rw [beq_eq_false_iff_ne]; rintro rfl; revert hy; decide
  simp [Lib.indexByte, a1, a2]
 have hw2 : IntKind.i64.wrap (1 + 1) = 2 := by decide
 have hb1 : ∀ h : 1 < (⟨#[45, 95, 46, 43]⟩ : ByteArray).size, (((⟨#[45, 95, 46, 43]⟩ : ByteArray)[1]'h).toNat : Int) = 95 := fun _ => rfl
 have hb2 : ∀ h : 1 < (⟨#[x, y]⟩ : ByteArray).size, (((⟨#[x, y]⟩ : ByteArray)[1]'h).toNat : Int) = (y.toNat : Int) := fun _ => rfl
 go_enter Tryd.func81, Tryd.ntmps81
 go_wp2_with (go_at_call 89; refine (Tryd.utf8_ValidRune _ _).mono ?_; rintro e w' ⟨rfl, rfl⟩; rw [hv])
 go_step3
 go_wp2
 refine wp_loop_rounds 1 ?_
 rw [rounds_succ]
 go_wp2
 go_step3
 go_wp2
 go_quiet (fail)
 go_wp2
 go_quiet ((go_at_call 88; refine (Tryd.strings_IndexByte _ _ _).mono ?_; rintro e w1 ⟨rfl, hw1⟩; exact ⟨rfl, _, hw1⟩))
 go_wp2
 rw [Exit.noGoto_ret]
 simp only [Exit.inBlock, Exit.then]
 rw [Exit.noGoto_ret]
 go_ret
 exact ⟨rfl, (Drawn0.refl _).step _⟩
theorem strings_ContainsRune.low (k : Fin 128) : decide (0 ≤ Lib.indexByte [45, 95, 46, 43] ((k.val : Int)).toNat.toUInt8) = decide ((k.val : Int) = 45 ∨ (k.val : Int) = 95 ∨ (k.val : Int) = 46 ∨ (k.val : Int) = 43) := by
 revert k
 decide +kernel
def strings_ContainsRune.f (a0 : ByteArray) (a1 : Int) : Option Bool := if a0.data.toList = [45, 95, 46, 43] then (if 0 ≤ a1 then (if a1 ≤ 255 then some (decide (a1 = 45 ∨ a1 = 95 ∨ a1 = 46 ∨ a1 = 43)) else none) else none) else none
set_option maxHeartbeats 2000000 in
set_option maxRecDepth 1000000 in
theorem strings_ContainsRune.calls (a0 : ByteArray) (a1 : Int) (r : Bool) (w : World) (h : strings_ContainsRune.f a0 a1 = some r) :
 Calls Tryd.prog 72 #[.string a0, .int .i32 a1] w fun e w' => e = .returned (.bool r) ∧ Drawn0 w w' := by
 unfold strings_ContainsRune.f at h
 split at h
 {
 rename_i hs
 obtain rfl : a0 = ⟨#[45, 95, 46, 43]⟩ := by
  cases a0 with
  | mk d => exact congrArg ByteArray.mk (Array.toList_inj.1 hs)
 split at h
 {
 rename_i h0
 split at h
 {
 rename_i h1
 obtain rfl := Option.some.inj h
 by_cases hl : a1 < 128
 {
 obtain ⟨n, rfl⟩ := Int.eq_ofNat_of_zero_le h0
 have hk := strings_ContainsRune.low ⟨n, by omega⟩
 refine (Tryd.strings_ContainsRune_ascii _ (n : Int) w h0 hl).mono fun e w' ⟨he, hw⟩ => ⟨?_, hw ▸ Drawn0.refl _⟩
 rw [he]
 exact congrArg (fun b => Ending.returned (.bool b)) hk}
 {
 rw [decide_eq_false (show ¬ (a1 = 45 ∨ a1 = 95 ∨ a1 = 46 ∨ a1 = 43) by omega)]
 go_enter Tryd.func72, Tryd.ntmps72
 go_wp2_with (go_at_call 81; refine (strings_ContainsRune.index_hi a1 _ (by omega) h1).mono ?_; rintro e w' ⟨rfl, ⟨nd, rfl⟩⟩)
 go_ret
 exact ⟨rfl, dR_⟩}}
 {
 cases h}}
 {
 cases h}}
 {
 cases h
}
def spec_l10Up.l0 : Nat → ByteArray → Int → Option (ByteArray)
 | 0, _, _ => none
 | k + 1, x0, x3 => if x3 ≥ 0 then (if 0 ≤ x3 then (if x3 < (x0.size : Int) then (if (bt x0 x3) = 47 then (if x3 ≤ (x0.size : Int) then (some (x0.extract 0 (x3 : Int).toNat)) else (none)) else (spec_l10Up.l0 k x0 (wrap64 (x3 - 1)))) else (none)) else (none)) else (some (⟨#[]⟩ : ByteArray))
def spec_l10Up.f (k : Nat) (a0 : ByteArray) : Option (ByteArray) := spec_l10Up.l0 k a0 (wrap64 ((a0.size : Int) - 1))
theorem spec_l10Up.calls (k : Nat) (a0 : ByteArray) (r : ByteArray) (w : World) (h : spec_l10Up.f k a0 = some r) :
 Calls Tryd.prog 28 #[.string a0] w fun e w' => e = .returned (.string r) ∧ Drawn0 w w' := by
 have H : (spec_l10Up.l0 k a0 (wrap64 ((a0.size : Int) - 1))) = some r := h
 clear h
 have H' := Aside0.mk H
 clear H
 go_enter Tryd.func28, Tryd.ntmps28
 go_wp2
 go_loopg [3] k (fun kq v3 w' => ∃ (x3_1 : Int), v3 = .int .i64 x3_1 ∧ Aside0 (spec_l10Up.l0 kq a0 x3_1 = some r) ∧ Aside0 (kq ≤ k) ∧ Drawn0 w w')
 case atStart => exact ⟨(wrap64 ((a0.size : Int) - 1)), (by first | rfl | (simp; done) | (simp [*]; done)), H', ⟨Nat.le_refl _⟩, dR_⟩
 case round =>
  clear H'
  obtain ⟨x3_1, rfl, HA, HK1, ⟨m1, rfl⟩⟩ := hrel
  cases gk with
  | zero => exact absurd HA.out (by simp [spec_l10Up.l0])
  | succ k1 =>
   have H := HA.out
   clear HA
   simp only [spec_l10Up.l0] at H
   by_cases c2 : x3_1 ≥ 0
   {
   rw [if_pos c2] at H
   have c2b0 : decide (0 ≤ x3_1) = true := decide_eq_true c2
   clear c2
   by_cases c3 : 0 ≤ x3_1
   {
   rw [if_pos c3] at H
   have c3b0 := decide_eq_true c3
   clear c3
   by_cases c4 : x3_1 < (a0.size : Int)
   {
   rw [if_pos c4] at H
   have c4b0 := decide_eq_true c4
   clear c4
   by_cases c6 : (bt a0 x3_1) = 47
   {
   rw [if_pos c6] at H
   have c6b0 : ((bt a0 x3_1) == 47) = true := beq_iff_eq.mpr c6
   have c6b1 : ((bt a0 x3_1) != 47) = false := bne_eq_false_iff_eq.mpr c6
   clear c6
   have c7b0 := eq_true (dA_ : 0 ≤ x3_1)
   by_cases c8 : x3_1 ≤ (a0.size : Int)
   {
   rw [if_pos c8] at H
   have c8b0 := eq_true c8
   have c8b1 := decide_eq_true c8
   clear c8
   obtain rfl := Option.some.inj H
   have p5 : 0 ≤ (x3_1 : Int) := dA_
   have q5 : x3_1 < (a0.size : Int) := dA_
   have hx5 := bt_at a0 x3_1
   replace p5 := eq_true p5
   replace q5 := eq_true q5
   go_wp2
   go_ret
   exact ⟨eS_, dR_⟩}
   {
   rw [if_neg c8] at H
   exact absurd H (by simp)}}
   {
   rw [if_neg c6] at H
   have c6b0 : ((bt a0 x3_1) == 47) = false := beq_eq_false_iff_ne.mpr c6
   have c6b1 : ((bt a0 x3_1) != 47) = true := bne_iff_ne.mpr c6
   have H' := Aside0.mk H
   clear H
   have p5 : 0 ≤ (x3_1 : Int) := dA_
   have q5 : x3_1 < (a0.size : Int) := dA_
   have hx5 := bt_at a0 x3_1
   replace p5 := eq_true p5
   replace q5 := eq_true q5
   go_wp2
   go_roundg k1
   case measure => have := HK1.out; omega
   case rel => exact ⟨(wrap64 (x3_1 - 1)), (by first | rfl | (simp; done) | (simp [*]; done)), H', ⟨by have := HK1.out; omega⟩, dR_⟩}}
   {
   rw [if_neg c4] at H
   exact absurd H (by simp)}}
   {
   rw [if_neg c3] at H
   exact absurd H (by simp)}}
   {
   rw [if_neg c2] at H
   have c2b0 : decide (0 ≤ x3_1) = false := decide_eq_false c2
   clear c2
   obtain rfl := Option.some.inj H
   go_wp2
   go_ret
   exact ⟨eS_, dR_⟩}
def spec_l1Letter.f (a0 : Int) : Option (Bool) := if a0 ≥ 97 then (if a0 ≤ 122 then (some true) else (if a0 ≥ 65 then (some (decide (a0 ≤ 90))) else (some false))) else (if a0 ≥ 65 then (some (decide (a0 ≤ 90))) else (some false))
theorem spec_l1Letter.calls (a0 : Int) (r : Bool) (w : World) (h : spec_l1Letter.f a0 = some r) :
 Calls Tryd.prog 75 #[.int .u8 a0] w fun e w' => e = .returned (.bool r) ∧ Drawn0 w w' := by
 have H : (if a0 ≥ 97 then (if a0 ≤ 122 then (some true) else (if a0 ≥ 65 then (some (decide (a0 ≤ 90))) else (some false))) else (if a0 ≥ 65 then (some (decide (a0 ≤ 90))) else (some false))) = some r := h
 clear h
 by_cases c2 : a0 ≥ 97
 {
 rw [if_pos c2] at H
 have c2b0 : decide (97 ≤ a0) = true := decide_eq_true c2
 clear c2
 by_cases c3 : a0 ≤ 122
 {
 rw [if_pos c3] at H
 have c3b0 := decide_eq_true c3
 clear c3
 obtain rfl := Option.some.inj H
 go_enter Tryd.func75, Tryd.ntmps75
 go_wp2
 go_ret
 exact ⟨eS_, dR_⟩}
 {
 rw [if_neg c3] at H
 have c3b0 := decide_eq_false c3
 clear c3
 by_cases c4 : a0 ≥ 65
 {
 rw [if_pos c4] at H
 have c4b0 : decide (65 ≤ a0) = true := decide_eq_true c4
 clear c4
 obtain rfl := Option.some.inj H
 go_enter Tryd.func75, Tryd.ntmps75
 go_wp2
 go_ret
 exact ⟨eS_, dR_⟩}
 {
 rw [if_neg c4] at H
 have c4b0 : decide (65 ≤ a0) = false := decide_eq_false c4
 clear c4
 obtain rfl := Option.some.inj H
 go_enter Tryd.func75, Tryd.ntmps75
 go_wp2
 go_ret
 exact ⟨eS_, dR_⟩}}}
 {
 rw [if_neg c2] at H
 have c2b0 : decide (97 ≤ a0) = false := decide_eq_false c2
 clear c2
 by_cases c5 : a0 ≥ 65
 {
 rw [if_pos c5] at H
 have c5b0 : decide (65 ≤ a0) = true := decide_eq_true c5
 clear c5
 obtain rfl := Option.some.inj H
 go_enter Tryd.func75, Tryd.ntmps75
 go_wp2
 go_ret
 exact ⟨eS_, dR_⟩}
 {
 rw [if_neg c5] at H
 have c5b0 : decide (65 ≤ a0) = false := decide_eq_false c5
 clear c5
 obtain rfl := Option.some.inj H
 go_enter Tryd.func75, Tryd.ntmps75
 go_wp2
 go_ret
 exact ⟨eS_, dR_⟩}}
def spec_l1Digit.f (a0 : Int) : Option (Bool) := if a0 ≥ 48 then (some (decide (a0 ≤ 57))) else (some false)
theorem spec_l1Digit.calls (a0 : Int) (r : Bool) (w : World) (h : spec_l1Digit.f a0 = some r) :
 Calls Tryd.prog 76 #[.int .u8 a0] w fun e w' => e = .returned (.bool r) ∧ Drawn0 w w' := by
 have H : (if a0 ≥ 48 then (some (decide (a0 ≤ 57))) else (some false)) = some r := h
 clear h
 by_cases c2 : a0 ≥ 48
 {
 rw [if_pos c2] at H
 have c2b0 : decide (48 ≤ a0) = true := decide_eq_true c2
 clear c2
 obtain rfl := Option.some.inj H
 go_enter Tryd.func76, Tryd.ntmps76
 go_wp2
 go_ret
 exact ⟨eS_, dR_⟩}
 {
 rw [if_neg c2] at H
 have c2b0 : decide (48 ≤ a0) = false := decide_eq_false c2
 clear c2
 obtain rfl := Option.some.inj H
 go_enter Tryd.func76, Tryd.ntmps76
 go_wp2
 go_ret
 exact ⟨eS_, dR_⟩
}
mutual
def spec_NameOk.j0 : Nat → ByteArray → Bool → Option (Bool)
 | 0, _, _ => none
 | k + 1, x0, x17 => if x17 = true then (some false) else (spec_NameOk.l0 k x0 0)
def spec_NameOk.l0 : Nat → ByteArray → Int → Option (Bool)
 | 0, _, _ => none
 | k + 1, x0, x3 => if x3 < (x0.size : Int) then (if 0 ≤ x3 then ((spec_l1Letter.f (bt x0 x3)).bind fun t285 => (if t285 = true then (spec_NameOk.l0 k x0 (wrap64 (x3 + 1))) else ((spec_l1Digit.f (bt x0 x3)).bind fun t286 => (if t286 = true then (spec_NameOk.l0 k x0 (wrap64 (x3 + 1))) else (if (bt x0 x3) = 45 then (spec_NameOk.l0 k x0 (wrap64 (x3 + 1))) else (if (bt x0 x3) = 95 then (spec_NameOk.l0 k x0 (wrap64 (x3 + 1))) else (if (bt x0 x3) = 46 then (spec_NameOk.l0 k x0 (wrap64 (x3 + 1))) else (if (bt x0 x3) = 43 then (spec_NameOk.l0 k x0 (wrap64 (x3 + 1))) else (some false))))))))) else (none)) else (some true)
end
def spec_NameOk.f (k : Nat) (a0 : ByteArray) : Option (Bool) := if (a0.size : Int) < 1 then (spec_NameOk.j0 k a0 true) else (if (a0.size : Int) > 60 then (spec_NameOk.j0 k a0 true) else (if 0 < (a0.size : Int) then (spec_NameOk.j0 k a0 ((bt a0 0) == 46)) else (none)))
theorem spec_NameOk.calls (k : Nat) (a0 : ByteArray) (r : Bool) (w : World) (h : spec_NameOk.f k a0 = some r) :
 Calls Tryd.prog 66 #[.string a0] w fun e w' => e = .returned (.bool r) ∧ Drawn0 w w' := by
 have H : (if (a0.size : Int) < 1 then (spec_NameOk.j0 k a0 true) else (if (a0.size : Int) > 60 then (spec_NameOk.j0 k a0 true) else (if 0 < (a0.size : Int) then (spec_NameOk.j0 k a0 ((bt a0 0) == 46)) else (none)))) = some r := h
 clear h
 have HC2 := Aside0.mk H
 clear H
 go_enter Tryd.func66, Tryd.ntmps66
 go_upto_region 1 with (fail)
 go_cut [17] (fun v17 wc => ∃ (kq : Nat) (x17_1 : Bool), v17 = .bool x17_1 ∧ Aside0 (spec_NameOk.j0 kq a0 x17_1 = some r) ∧ Aside0 (kq ≤ k) ∧ Drawn0 w wc)
 case first =>
  have H := HC2.out
  clear HC2
  by_cases c3 : (a0.size : Int) < 1
  {
  rw [if_pos c3] at H
  have c3b0 := decide_eq_true c3
  have c3b1 : decide (a0.size < 1) = true := decide_eq_true (by omega)
  clear c3
  (first | rw [c3b0] | (simp only [i64_w, i32_w]; rw [c3b0]) | skip)
  have H' := Aside0.mk H
  clear H
  go_wp2
  go_meet
  case rel => exact ⟨_, (true), (by first | rfl | (simp; done) | (simp [*]; done)), H', ⟨by first | omega | exact Nat.le_refl _⟩, dR_⟩}
  {
  rw [if_neg c3] at H
  have c3b0 := decide_eq_false c3
  have c3b1 : decide (a0.size < 1) = false := decide_eq_false (by omega)
  clear c3
  (first | rw [c3b0] | (simp only [i64_w, i32_w]; rw [c3b0]) | skip)
  by_cases c4 : (a0.size : Int) > 60
  {
  rw [if_pos c4] at H
  have c4b0 : decide (60 < (a0.size : Int)) = true := decide_eq_true c4
  have c4b1 : decide (60 < a0.size) = true := decide_eq_true (by omega)
  clear c4
  have H' := Aside0.mk H
  clear H
  go_wp2
  go_meet
  case rel => exact ⟨_, (true), (by first | rfl | (simp; done) | (simp [*]; done)), H', ⟨by first | omega | exact Nat.le_refl _⟩, dR_⟩}
  {
  rw [if_neg c4] at H
  have c4b0 : decide (60 < (a0.size : Int)) = false := decide_eq_false c4
  have c4b1 : decide (60 < a0.size) = false := decide_eq_false (by omega)
  clear c4
  by_cases c5 : 0 < (a0.size : Int)
  {
  rw [if_pos c5] at H
  have c5b0 := decide_eq_true c5
  have c5b1 : decide (0 < a0.size) = true := decide_eq_true (by omega)
  clear c5
  have H' := Aside0.mk H
  clear H
  have p6 : 0 ≤ (0 : Int) := (by omega)
  have q6 : 0 < a0.size := (by have : (0 : Int) < (a0.size : Int) := dA_; omega)
  have hx6 : ∀ h : 0 < a0.size, ((a0[0]'h).toNat : Int) = bt a0 0 := bt_at a0 0
  clear p6
  have qi6 : (0 < (a0.size : Int)) = True := eq_true (dA_)
  replace q6 := eq_true q6
  go_wp2
  go_meet
  case rel => exact ⟨_, (((bt a0 0) == 46)), (by first | rfl | (simp; done) | (simp [*]; done)), H', ⟨by first | omega | exact Nat.le_refl _⟩, dR_⟩}
  {
  rw [if_neg c5] at H
  exact absurd H (by simp)}}}
 case rest =>
  clear HC2
  try clear p2
  try clear c3
  try clear c3b0
  try clear c3b1
  try clear c4
  try clear c4b0
  try clear c4b1
  try clear c5
  try clear c5b0
  try clear c5b1
  try clear c6
  try clear p6
  try clear q6
  try clear hx6
  try clear qi6
  try clear p6
  try clear q6
  obtain ⟨kq, x17_1, rfl, HA, HJ1, ⟨mc1, rfl⟩⟩ := hcut
  cases kq with
  | zero => exact absurd HA.out (by simp [spec_NameOk.j0])
  | succ kj1 =>
   have H := HA.out
   clear HA
   simp only [spec_NameOk.j0] at H
   by_cases c7 : x17_1 = true
   {
   subst c7
   rw [if_pos rfl] at H
   obtain rfl := Option.some.inj H
   go_wp2
   go_ret
   exact ⟨eS_, dR_⟩}
   {
   replace c7 := Bool.eq_false_iff.mpr c7
   subst c7
   rw [if_neg (show ¬ (false = true) by decide)] at H
   have H' := Aside0.mk H
   clear H
   go_wp2
   go_loopg [3] kj1 (fun kq v3 w' => ∃ (x3_2 : Int), v3 = .int .i64 x3_2 ∧ Aside0 (spec_NameOk.l0 kq a0 x3_2 = some r) ∧ Aside0 (kq ≤ kj1) ∧ Drawn0 w w')
   case atStart => exact ⟨(0), (by first | rfl | (simp; done) | (simp [*]; done)), H', ⟨Nat.le_refl _⟩, dR_⟩
   case round =>
    clear H'
    try clear c1
    try clear p2
    try clear c3
    try clear c3b0
    try clear c3b1
    try clear c4
    try clear c4b0
    try clear c4b1
    try clear c5
    try clear c5b0
    try clear c5b1
    try clear c6
    try clear p6
    try clear q6
    try clear hx6
    try clear qi6
    try clear c7
    try clear p2
    try clear p6
    try clear q6
    obtain ⟨x3_2, rfl, HA, HK2, ⟨m2, rfl⟩⟩ := hrel
    cases gk with
    | zero => exact absurd HA.out (by simp [spec_NameOk.l0])
    | succ k2 =>
     have H := HA.out
     clear HA
     simp only [spec_NameOk.l0] at H
     by_cases c8 : x3_2 < (a0.size : Int)
     {
     rw [if_pos c8] at H
     have c8b0 := decide_eq_true c8
     clear c8
     by_cases c9 : 0 ≤ x3_2
     {
     rw [if_pos c9] at H
     have c9b0 := decide_eq_true c9
     clear c9
     replace H := Option.bind_eq_some_iff.mp H
     obtain ⟨t285, A110, H⟩ := H
     have A11 := Aside0.mk A110
     clear A110
     by_cases c12 : t285 = true
     {
     subst c12
     rw [if_pos rfl] at H
     have H' := Aside0.mk H
     clear H
     have p10 : 0 ≤ (x3_2 : Int) := dA_
     have q10 : x3_2 < (a0.size : Int) := dA_
     have hx10 := bt_at a0 x3_2
     replace p10 := eq_true p10
     replace q10 := eq_true q10
     go_wp2_with (first | ((with_reducible refine gate_callee (f := 75) rfl ?_); refine gL_ (some 28) Tryd.func75 #[.int .u8 (bt a0 x3_2)] ?_; (with_reducible refine (spec_l1Letter.calls (bt a0 x3_2) true _ A11.out).mono ?_); rintro e w' ⟨rfl, ⟨nd, rfl⟩⟩; refine ⟨_, rfl, ?_⟩))
     go_roundg k2
     case measure => have := HJ1.out; have := HK2.out; omega
     case rel => exact ⟨(wrap64 (x3_2 + 1)), (by first | rfl | (simp; done) | (simp [*]; done)), H', ⟨by have := HJ1.out; have := HK2.out; omega⟩, dR_⟩}
     {
     replace c12 := Bool.eq_false_iff.mpr c12
     subst c12
     rw [if_neg (show ¬ (false = true) by decide)] at H
     replace H := Option.bind_eq_some_iff.mp H
     obtain ⟨t286, A130, H⟩ := H
     have A13 := Aside0.mk A130
     clear A130
     by_cases c14 : t286 = true
     {
     subst c14
     rw [if_pos rfl] at H
     have H' := Aside0.mk H
     clear H
     have p10 : 0 ≤ (x3_2 : Int) := dA_
     have q10 : x3_2 < (a0.size : Int) := dA_
     have hx10 := bt_at a0 x3_2
     replace p10 := eq_true p10
     replace q10 := eq_true q10
     go_wp2_with (first | ((with_reducible refine gate_callee (f := 75) rfl ?_); refine gL_ (some 28) Tryd.func75 #[.int .u8 (bt a0 x3_2)] ?_; (with_reducible refine (spec_l1Letter.calls (bt a0 x3_2) false _ A11.out).mono ?_); rintro e w' ⟨rfl, ⟨nd, rfl⟩⟩; refine ⟨_, rfl, ?_⟩) | (go_at_call 76; (with_reducible refine (spec_l1Digit.calls (bt a0 x3_2) true _ A13.out).mono ?_); rintro e w' ⟨rfl, ⟨nd, rfl⟩⟩))
     go_roundg k2
     case measure => have := HJ1.out; have := HK2.out; omega
     case rel => exact ⟨(wrap64 (x3_2 + 1)), (by first | rfl | (simp; done) | (simp [*]; done)), H', ⟨by have := HJ1.out; have := HK2.out; omega⟩, dR_⟩}
     {
     replace c14 := Bool.eq_false_iff.mpr c14
     subst c14
     rw [if_neg (show ¬ (false = true) by decide)] at H
     by_cases c15 : (bt a0 x3_2) = 45
     {
     rw [if_pos c15] at H
     have c15b0 : ((bt a0 x3_2) == 45) = true := beq_iff_eq.mpr c15
     have c15b1 : ((bt a0 x3_2) != 45) = false := bne_eq_false_iff_eq.mpr c15
     clear c15
     have H' := Aside0.mk H
     clear H
     have p10 : 0 ≤ (x3_2 : Int) := dA_
     have q10 : x3_2 < (a0.size : Int) := dA_
     have hx10 := bt_at a0 x3_2
     replace p10 := eq_true p10
     replace q10 := eq_true q10
     go_wp2_with (first | ((with_reducible refine gate_callee (f := 75) rfl ?_); refine gL_ (some 28) Tryd.func75 #[.int .u8 (bt a0 x3_2)] ?_; (with_reducible refine (spec_l1Letter.calls (bt a0 x3_2) false _ A11.out).mono ?_); rintro e w' ⟨rfl, ⟨nd, rfl⟩⟩; refine ⟨_, rfl, ?_⟩) | (go_at_call 76; (with_reducible refine (spec_l1Digit.calls (bt a0 x3_2) false _ A13.out).mono ?_); rintro e w' ⟨rfl, ⟨nd, rfl⟩⟩))
     go_roundg k2
     case measure => have := HJ1.out; have := HK2.out; omega
     case rel => exact ⟨(wrap64 (x3_2 + 1)), (by first | rfl | (simp; done) | (simp [*]; done)), H', ⟨by have := HJ1.out; have := HK2.out; omega⟩, dR_⟩}
     {
     rw [if_neg c15] at H
     have c15b0 : ((bt a0 x3_2) == 45) = false := beq_eq_false_iff_ne.mpr c15
     have c15b1 : ((bt a0 x3_2) != 45) = true := bne_iff_ne.mpr c15
     by_cases c16 : (bt a0 x3_2) = 95
     {
     rw [if_pos c16] at H
     have c16b0 : ((bt a0 x3_2) == 95) = true := beq_iff_eq.mpr c16
     have c16b1 : ((bt a0 x3_2) != 95) = false := bne_eq_false_iff_eq.mpr c16
     clear c16
     have H' := Aside0.mk H
     clear H
     have p10 : 0 ≤ (x3_2 : Int) := dA_
     have q10 : x3_2 < (a0.size : Int) := dA_
     have hx10 := bt_at a0 x3_2
     replace p10 := eq_true p10
     replace q10 := eq_true q10
     go_wp2_with (first | ((with_reducible refine gate_callee (f := 75) rfl ?_); refine gL_ (some 28) Tryd.func75 #[.int .u8 (bt a0 x3_2)] ?_; (with_reducible refine (spec_l1Letter.calls (bt a0 x3_2) false _ A11.out).mono ?_); rintro e w' ⟨rfl, ⟨nd, rfl⟩⟩; refine ⟨_, rfl, ?_⟩) | (go_at_call 76; (with_reducible refine (spec_l1Digit.calls (bt a0 x3_2) false _ A13.out).mono ?_); rintro e w' ⟨rfl, ⟨nd, rfl⟩⟩))
     go_roundg k2
     case measure => have := HJ1.out; have := HK2.out; omega
     case rel => exact ⟨(wrap64 (x3_2 + 1)), (by first | rfl | (simp; done) | (simp [*]; done)), H', ⟨by have := HJ1.out; have := HK2.out; omega⟩, dR_⟩}
     {
     rw [if_neg c16] at H
     have c16b0 : ((bt a0 x3_2) == 95) = false := beq_eq_false_iff_ne.mpr c16
     have c16b1 : ((bt a0 x3_2) != 95) = true := bne_iff_ne.mpr c16
     by_cases c17 : (bt a0 x3_2) = 46
     {
     rw [if_pos c17] at H
     have c17b0 : ((bt a0 x3_2) == 46) = true := beq_iff_eq.mpr c17
     have c17b1 : ((bt a0 x3_2) != 46) = false := bne_eq_false_iff_eq.mpr c17
     clear c17
     have H' := Aside0.mk H
     clear H
     have p10 : 0 ≤ (x3_2 : Int) := dA_
     have q10 : x3_2 < (a0.size : Int) := dA_
     have hx10 := bt_at a0 x3_2
     replace p10 := eq_true p10
     replace q10 := eq_true q10
     go_wp2_with (first | ((with_reducible refine gate_callee (f := 75) rfl ?_); refine gL_ (some 28) Tryd.func75 #[.int .u8 (bt a0 x3_2)] ?_; (with_reducible refine (spec_l1Letter.calls (bt a0 x3_2) false _ A11.out).mono ?_); rintro e w' ⟨rfl, ⟨nd, rfl⟩⟩; refine ⟨_, rfl, ?_⟩) | (go_at_call 76; (with_reducible refine (spec_l1Digit.calls (bt a0 x3_2) false _ A13.out).mono ?_); rintro e w' ⟨rfl, ⟨nd, rfl⟩⟩))
     go_roundg k2
     case measure => have := HJ1.out; have := HK2.out; omega
     case rel => exact ⟨(wrap64 (x3_2 + 1)), (by first | rfl | (simp; done) | (simp [*]; done)), H', ⟨by have := HJ1.out; have := HK2.out; omega⟩, dR_⟩}
     {
     rw [if_neg c17] at H
     have c17b0 : ((bt a0 x3_2) == 46) = false := beq_eq_false_iff_ne.mpr c17
     have c17b1 : ((bt a0 x3_2) != 46) = true := bne_iff_ne.mpr c17
     by_cases c18 : (bt a0 x3_2) = 43
     {
     rw [if_pos c18] at H
     have c18b0 : ((bt a0 x3_2) == 43) = true := beq_iff_eq.mpr c18
     have c18b1 : ((bt a0 x3_2) != 43) = false := bne_eq_false_iff_eq.mpr c18
     clear c18
     have H' := Aside0.mk H
     clear H
     have p10 : 0 ≤ (x3_2 : Int) := dA_
     have q10 : x3_2 < (a0.size : Int) := dA_
     have hx10 := bt_at a0 x3_2
     replace p10 := eq_true p10
     replace q10 := eq_true q10
     go_wp2_with (first | ((with_reducible refine gate_callee (f := 75) rfl ?_); refine gL_ (some 28) Tryd.func75 #[.int .u8 (bt a0 x3_2)] ?_; (with_reducible refine (spec_l1Letter.calls (bt a0 x3_2) false _ A11.out).mono ?_); rintro e w' ⟨rfl, ⟨nd, rfl⟩⟩; refine ⟨_, rfl, ?_⟩) | (go_at_call 76; (with_reducible refine (spec_l1Digit.calls (bt a0 x3_2) false _ A13.out).mono ?_); rintro e w' ⟨rfl, ⟨nd, rfl⟩⟩))
     go_roundg k2
     case measure => have := HJ1.out; have := HK2.out; omega
     case rel => exact ⟨(wrap64 (x3_2 + 1)), (by first | rfl | (simp; done) | (simp [*]; done)), H', ⟨by have := HJ1.out; have := HK2.out; omega⟩, dR_⟩}
     {
     rw [if_neg c18] at H
     have c18b0 : ((bt a0 x3_2) == 43) = false := beq_eq_false_iff_ne.mpr c18
     have c18b1 : ((bt a0 x3_2) != 43) = true := bne_iff_ne.mpr c18
     obtain rfl := Option.some.inj H
     have p10 : 0 ≤ (x3_2 : Int) := dA_
     have q10 : x3_2 < (a0.size : Int) := dA_
     have hx10 := bt_at a0 x3_2
     replace p10 := eq_true p10
     replace q10 := eq_true q10
     go_wp2_with (first | ((with_reducible refine gate_callee (f := 75) rfl ?_); refine gL_ (some 28) Tryd.func75 #[.int .u8 (bt a0 x3_2)] ?_; (with_reducible refine (spec_l1Letter.calls (bt a0 x3_2) false _ A11.out).mono ?_); rintro e w' ⟨rfl, ⟨nd, rfl⟩⟩; refine ⟨_, rfl, ?_⟩) | (go_at_call 76; (with_reducible refine (spec_l1Digit.calls (bt a0 x3_2) false _ A13.out).mono ?_); rintro e w' ⟨rfl, ⟨nd, rfl⟩⟩))
     go_ret
     exact ⟨eS_, dR_⟩}}}}}}}
     {
     rw [if_neg c9] at H
     exact absurd H (by simp)}}
     {
     rw [if_neg c8] at H
     have c8b0 := decide_eq_false c8
     clear c8
     obtain rfl := Option.some.inj H
     go_wp2
     go_ret
     exact ⟨eS_, dR_⟩
}}
mutual
def spec_l10Names.l0 : Nat → ByteArray → List ByteArray → Int → Int → Option (List ByteArray × Bool)
 | 0, _, _, _, _ => none
 | k + 1, x0, x4, x5, x6 => if x6 ≤ (x0.size : Int) then (if x6 = (x0.size : Int) then (spec_l10Names.j1 k x0 x4 x5 x6 true) else (if 0 ≤ x6 then (if x6 < (x0.size : Int) then (spec_l10Names.j1 k x0 x4 x5 x6 ((bt x0 x6) == 47)) else (none)) else (none))) else (some (x4, true))
def spec_l10Names.j1 : Nat → ByteArray → List ByteArray → Int → Int → Bool → Option (List ByteArray × Bool)
 | 0, _, _, _, _, _ => none
 | k + 1, x0, x4, x5, x6, x23 => if x23 = true then (if 0 ≤ x5 then (if x5 ≤ x6 then (if x6 ≤ (x0.size : Int) then ((spec_NameOk.f k (x0.extract (x5 : Int).toNat (x6 : Int).toNat)).bind fun t290 => (if t290 = true then (if (x4.length : Int) = 8 then (some (x4, false)) else (if x4.length < 8796093022208 then (spec_l10Names.l0 k x0 (x4 ++ [x0.extract (x5 : Int).toNat (x6 : Int).toNat]) (wrap64 (x6 + 1)) (wrap64 (x6 + 1))) else (none))) else (some (x4, false)))) else (none)) else (none)) else (none)) else (spec_l10Names.l0 k x0 x4 x5 (wrap64 (x6 + 1)))
end
def spec_l10Names.f (k : Nat) (a0 : ByteArray) : Option (List ByteArray × Bool) := spec_l10Names.l0 k a0 (([] : List ByteArray)) 0 0
theorem spec_l10Names.calls (k : Nat) (a0 : ByteArray) (r1 : List ByteArray) (r2 : Bool) (w : World) (h : spec_l10Names.f k a0 = some (r1, r2)) :
 Calls Tryd.prog 51 #[.string a0] w fun e w' => ∃ v0_ : Value, e = .returned (.tuple #[v0_, .bool r2]) ∧ Kd.R Kd.string 9 w' w.heap.size (fun _ => True) v0_ r1 ∧ Below w.heap.size w w' := by
 have HB := Aside0.mk (Below.refl w.heap.size w)
 have H : (spec_l10Names.l0 k a0 (([] : List ByteArray)) 0 0) = some (r1, r2) := h
 clear h
 obtain ⟨y287, hy287⟩ : ∃ y_ : List ByteArray, y_ = (([] : List ByteArray)) := ⟨_, rfl⟩
 replace H : (spec_l10Names.l0 k a0 y287 0 0) = some (r1, r2) := rH_ hy287 H
 have Ny287 := Aside0.mk hy287
 clear hy287
 have H' := Aside0.mk H
 clear H
 go_enter Tryd.func51, Tryd.ntmps51
 go_wp2_with (first | ((with_reducible refine gate_dst (N := 7) rfl ?_); (try (refine gate_guard (by rfl) ?_; dsimp only)); refine Kd.R_lit Kd.string _ 9 ?hg (N := 7) ?hd (xs := ([] : List ByteArray)) (inner := []) (ok := fun _ => True) (okp := fun _ => True) ?hr ?hp (fun _ hk => hk) trivial (Below.refl _ _) (Nat.le_refl _) (by simp) ?_; (case hd => rfl); (case hg => rfl); (case hr => first | (go_simp; done) | (go_simp; rfl)); (case hp => exact (Reps.none _ _)); intro v288 w2 ho3 hb hg_ hnew_; clear hg_ hnew_; (first | rw [← Ny287.out] at ho3 | (simp only [Int.reduceToNat] at ho3; rw [← Ny287.out] at ho3)); have HO289 := Aside0.mk (Kd.R_lower ho3 (below_size (bw_ HB))); replace HB := Aside0.mk (below_step (bw_ HB) hb); clear hb ho3))
 go_loopg [4, 5, 6] k (fun kq v4 v5 v6 w' => ∃ (x4_1 : List ByteArray) (x5_1 : Int) (x6_1 : Int), v5 = .int .i64 x5_1 ∧ v6 = .int .i64 x6_1 ∧ Aside0 (spec_l10Names.l0 kq a0 x4_1 x5_1 x6_1 = some (r1, r2)) ∧ Aside0 (kq ≤ k) ∧ Aside0 (Kd.R Kd.string 9 w' w.heap.size (fun _ => True) v4 x4_1) ∧ Aside0 (Below w.heap.size w w'))
 case atStart => exact ⟨(y287), (0), (0), (by first | rfl | (simp; done) | (simp [*]; done)), (by first | rfl | (simp; done) | (simp [*]; done)), H', ⟨Nat.le_refl _⟩, ⟨kr_ HO289⟩, ⟨bw_ HB⟩⟩
 case round =>
  clear H'
  try clear p2
  obtain ⟨x4_1, x5_1, x6_1, rfl, rfl, HA, HK1, HO_4, HB⟩ := hrel
  cases gk with
  | zero => exact absurd HA.out (by simp [spec_l10Names.l0])
  | succ k1 =>
   have H := HA.out
   clear HA
   simp only [spec_l10Names.l0] at H
   by_cases c4 : x6_1 ≤ (a0.size : Int)
   {
   rw [if_pos c4] at H
   have c4b0 := decide_eq_true c4
   clear c4
   have HC5 := Aside0.mk H
   clear H
   go_upto_region 6 with (fail)
   go_cut [23] (fun v23 wc => ∃ (kq : Nat) (x23_4 : Bool), v23 = .bool x23_4 ∧ Aside0 (spec_l10Names.j1 kq a0 x4_1 x5_1 x6_1 x23_4 = some (r1, r2)) ∧ Aside0 (kq ≤ k1) ∧ Aside0 (Kd.R Kd.string 9 wc w.heap.size (fun _ => True) u4 x4_1) ∧ Aside0 (Below w.heap.size w wc))
   case first =>
    have H := HC5.out
    clear HC5
    by_cases c6 : x6_1 = (a0.size : Int)
    {
    rw [if_pos c6] at H
    have c6b0 : (x6_1 == (a0.size : Int)) = true := beq_iff_eq.mpr c6
    have c6b1 : (x6_1 != (a0.size : Int)) = false := bne_eq_false_iff_eq.mpr c6
    clear c6
    (first | rw [c6b0] | (simp only [i64_w, i32_w]; rw [c6b0]) | skip)
    have H' := Aside0.mk H
    clear H
    go_wp2
    go_meet
    case rel => exact ⟨_, (true), (by first | rfl | (simp; done) | (simp [*]; done)), H', ⟨by have := HK1.out; first | omega | exact Nat.le_refl _⟩, ⟨kr_ HO_4⟩, ⟨bw_ HB⟩⟩}
    {
    rw [if_neg c6] at H
    have c6b0 : (x6_1 == (a0.size : Int)) = false := beq_eq_false_iff_ne.mpr c6
    have c6b1 : (x6_1 != (a0.size : Int)) = true := bne_iff_ne.mpr c6
    (first | rw [c6b0] | (simp only [i64_w, i32_w]; rw [c6b0]) | skip)
    by_cases c7 : 0 ≤ x6_1
    {
    rw [if_pos c7] at H
    have c7b0 := decide_eq_true c7
    clear c7
    by_cases c8 : x6_1 < (a0.size : Int)
    {
    rw [if_pos c8] at H
    have c8b0 := decide_eq_true c8
    clear c8
    have H' := Aside0.mk H
    clear H
    have p9 : 0 ≤ (x6_1 : Int) := dA_
    have q9 : x6_1 < (a0.size : Int) := dA_
    have hx9 := bt_at a0 x6_1
    replace p9 := eq_true p9
    replace q9 := eq_true q9
    go_wp2
    go_meet
    case rel => exact ⟨_, (((bt a0 x6_1) == 47)), (by first | rfl | (simp; done) | (simp [*]; done)), H', ⟨by have := HK1.out; first | omega | exact Nat.le_refl _⟩, ⟨kr_ HO_4⟩, ⟨bw_ HB⟩⟩}
    {
    rw [if_neg c8] at H
    exact absurd H (by simp)}}
    {
    rw [if_neg c7] at H
    exact absurd H (by simp)}}
   case rest =>
    clear HC5
    try clear p2
    try clear c4
    try clear c4b0
    try clear c5
    try clear c6
    try clear c6b0
    try clear c6b1
    try clear c7
    try clear c7b0
    try clear c8
    try clear c8b0
    try clear p9
    try clear q9
    try clear hx9
    try clear p2
    try clear p9
    try clear q9
    obtain ⟨kq, x23_4, rfl, HA, HJ4, HO_4, HB⟩ := hcut
    cases kq with
    | zero => exact absurd HA.out (by simp [spec_l10Names.j1])
    | succ kj4 =>
     have H := HA.out
     clear HA
     simp only [spec_l10Names.j1] at H
     by_cases c10 : x23_4 = true
     {
     subst c10
     rw [if_pos rfl] at H
     by_cases c11 : 0 ≤ x5_1
     {
     rw [if_pos c11] at H
     have c11b0 := eq_true c11
     have c11b1 := decide_eq_true c11
     clear c11
     by_cases c12 : x5_1 ≤ x6_1
     {
     rw [if_pos c12] at H
     have c12b0 := eq_true c12
     have c12b1 := decide_eq_true c12
     clear c12
     by_cases c13 : x6_1 ≤ (a0.size : Int)
     {
     rw [if_pos c13] at H
     have c13b0 := eq_true c13
     have c13b1 := decide_eq_true c13
     clear c13
     replace H := Option.bind_eq_some_iff.mp H
     obtain ⟨t290, A140, H⟩ := H
     have A14 := Aside0.mk A140
     clear A140
     by_cases c15 : t290 = true
     {
     subst c15
     rw [if_pos rfl] at H
     by_cases c16 : (x4_1.length : Int) = 8
     {
     rw [if_pos c16] at H
     have c16b0 : ((x4_1.length : Int) == 8) = true := beq_iff_eq.mpr c16
     have c16b1 : ((x4_1.length : Int) != 8) = false := bne_eq_false_iff_eq.mpr c16
     clear c16
     simp only [Option.some.injEq, Prod.mk.injEq] at H
     obtain ⟨rfl, rfl⟩ := H
     go_wp2_with (first | ((with_reducible refine gate_callee (f := 66) rfl ?_); refine gL_ (some 28) Tryd.func66 #[.string (a0.extract (x5_1 : Int).toNat (x6_1 : Int).toNat)] ?_; (with_reducible refine (spec_NameOk.calls kj4 (a0.extract (x5_1 : Int).toNat (x6_1 : Int).toNat) true _ A14.out).mono ?_); rintro e w' ⟨rfl, ⟨nd, rfl⟩⟩; refine ⟨_, rfl, ?_⟩; obtain ⟨Ao17, co17, eo17⟩ := Kd.R_slice HO_4.out; subst eo17))
     go_ret2
     exact ⟨_, eR_, kr_ HO_4, bw_ HB⟩}
     {
     rw [if_neg c16] at H
     have c16b0 : ((x4_1.length : Int) == 8) = false := beq_eq_false_iff_ne.mpr c16
     have c16b1 : ((x4_1.length : Int) != 8) = true := bne_iff_ne.mpr c16
     have c18b0 := eq_true (dA_ : 0 ≤ x5_1)
     have c19b0 := eq_true (dA_ : x5_1 ≤ x6_1)
     have c20b0 := eq_true (dA_ : x6_1 ≤ (a0.size : Int))
     by_cases c21 : x4_1.length < 8796093022208
     {
     rw [if_pos c21] at H
     have LMc21 := Aside0.mk c21
     clear c21
     obtain ⟨y291, hy291⟩ : ∃ y_ : List ByteArray, y_ = (x4_1 ++ [a0.extract (x5_1 : Int).toNat (x6_1 : Int).toNat]) := ⟨_, rfl⟩
     replace H : (spec_l10Names.l0 kj4 a0 y291 (wrap64 (x6_1 + 1)) (wrap64 (x6_1 + 1))) = some (r1, r2) := rH_ hy291 H
     have Ny291 := Aside0.mk hy291
     clear hy291
     have H' := Aside0.mk H
     clear H
     go_wp2_with (first | ((with_reducible refine gate_callee (f := 66) rfl ?_); refine gL_ (some 28) Tryd.func66 #[.string (a0.extract (x5_1 : Int).toNat (x6_1 : Int).toNat)] ?_; (with_reducible refine (spec_NameOk.calls kj4 (a0.extract (x5_1 : Int).toNat (x6_1 : Int).toNat) true _ A14.out).mono ?_); rintro e w' ⟨rfl, ⟨nd, rfl⟩⟩; refine ⟨_, rfl, ?_⟩; obtain ⟨Ao22, co22, eo22⟩ := Kd.R_slice HO_4.out; subst eo22) | ((with_reducible refine gate_builtin (b := .append) (xs := #[.tmp 36, .tmp 41]) rfl ?_); (try (refine gate_guard (by rfl) ?_; dsimp only)); at_builtin; refine Kd.R_append Kd.string (w0 := w) w.heap.size rfl (.tmp 36) (.tmp 41) 76 9 (.string ⟨#[]⟩) 16 rfl Tryd.underlying76 info9 rfl (by decide) (by omega) (.slice Ao22 x4_1.length co22) x4_1 (a0.extract (x5_1 : Int).toNat (x6_1 : Int).toNat) [.string (a0.extract (x5_1 : Int).toNat (x6_1 : Int).toNat)] (fun _ => True) (fun _ => False) rfl rfl ?aP (fun _ hk => hk.elim) ?aF ?aO ?aB ?aS ?aL ?_; (case aP => exact rfl); (case aB => exact (bw_ HB)); (case aF => exact (fun _ _ => trivial)); (case aO => exact (kr_ HO_4)); (case aS => exact (below_size (bw_ HB))); (case aL => have := LMc21.out; omega); intro v292 w23 ho hb hg hat; rw [← Ny291.out] at ho; replace HB := Aside0.mk (hb); have HO293 := Aside0.mk (ho); clear HO_4; clear ho hb hg hat))
     go_roundg kj4
     case measure => have := HK1.out; have := HJ4.out; omega
     case rel => exact ⟨(y291), (wrap64 (x6_1 + 1)), (wrap64 (x6_1 + 1)), (by first | rfl | (simp; done) | (simp [*]; done)), (by first | rfl | (simp; done) | (simp [*]; done)), H', ⟨by have := HK1.out; have := HJ4.out; omega⟩, ⟨kr_ HO293⟩, ⟨bw_ HB⟩⟩}
     {
     rw [if_neg c21] at H
     exact absurd H (by simp)}}}
     {
     replace c15 := Bool.eq_false_iff.mpr c15
     subst c15
     rw [if_neg (show ¬ (false = true) by decide)] at H
     simp only [Option.some.injEq, Prod.mk.injEq] at H
     obtain ⟨rfl, rfl⟩ := H
     go_wp2_with (first | ((with_reducible refine gate_callee (f := 66) rfl ?_); refine gL_ (some 28) Tryd.func66 #[.string (a0.extract (x5_1 : Int).toNat (x6_1 : Int).toNat)] ?_; (with_reducible refine (spec_NameOk.calls kj4 (a0.extract (x5_1 : Int).toNat (x6_1 : Int).toNat) false _ A14.out).mono ?_); rintro e w' ⟨rfl, ⟨nd, rfl⟩⟩; refine ⟨_, rfl, ?_⟩))
     go_ret2
     exact ⟨_, eR_, kr_ HO_4, bw_ HB⟩}}
     {
     rw [if_neg c13] at H
     exact absurd H (by simp)}}
     {
     rw [if_neg c12] at H
     exact absurd H (by simp)}}
     {
     rw [if_neg c11] at H
     exact absurd H (by simp)}}
     {
     replace c10 := Bool.eq_false_iff.mpr c10
     subst c10
     rw [if_neg (show ¬ (false = true) by decide)] at H
     have H' := Aside0.mk H
     clear H
     go_wp2
     go_roundg kj4
     case measure => have := HK1.out; have := HJ4.out; omega
     case rel => exact ⟨(x4_1), (x5_1), (wrap64 (x6_1 + 1)), (by first | rfl | (simp; done) | (simp [*]; done)), (by first | rfl | (simp; done) | (simp [*]; done)), H', ⟨by have := HK1.out; have := HJ4.out; omega⟩, ⟨kr_ HO_4⟩, ⟨bw_ HB⟩⟩}}
   {
   rw [if_neg c4] at H
   have c4b0 := decide_eq_false c4
   clear c4
   simp only [Option.some.injEq, Prod.mk.injEq] at H
   obtain ⟨rfl, rfl⟩ := H
   go_wp2
   go_ret2
   exact ⟨_, eR_, kr_ HO_4, bw_ HB⟩
}
def spec_l10EntryOk.j0 : Nat → Bool → ByteArray → Int → ByteArray → Bool → Option (Bool)
 | 0, _, _, _, _, _ => none
 | k + 1, x18, x295000, x295001, x295002, x295003 => if x18 = true then (some false) else (if x295001 = 1 then (if x295002.toList = ([] : List UInt8) then (some (!x295003)) else (some false)) else (if x295001 = 2 then (some true) else (if x295001 = 3 then (if x295002.toList = ([] : List UInt8) then (some false) else (some (!x295003))) else (some false))))
def spec_l10EntryOk.f (k : Nat) (a0_0 : ByteArray) (a0_1 : Int) (a0_2 : ByteArray) (a0_3 : Bool) : Option (Bool) := (spec_l10Names.f k a0_0).bind fun bt295 => (if bt295.2 = true then (spec_l10EntryOk.j0 k (decide ((a0_2.size : Int) > 20000)) a0_0 a0_1 a0_2 a0_3) else (spec_l10EntryOk.j0 k true a0_0 a0_1 a0_2 a0_3))
theorem spec_l10EntryOk.calls (k : Nat) (a0_0 : ByteArray) (a0_1 : Int) (a0_2 : ByteArray) (a0_3 : Bool) (r : Bool) (w : World) (h : spec_l10EntryOk.f k a0_0 a0_1 a0_2 a0_3 = some r) :
 Calls Tryd.prog 27 #[.agg #[.string a0_0, .int .i64 a0_1, .string a0_2, .bool a0_3]] w fun e w' => e = .returned (.bool r) ∧ Below w.heap.size w w' := by
 have hu29 := Tryd.underlying29
 have HB := Aside0.mk (Below.refl w.heap.size w)
 have H : ((spec_l10Names.f k a0_0).bind fun bt295 => (if bt295.2 = true then (spec_l10EntryOk.j0 k (decide ((a0_2.size : Int) > 20000)) a0_0 a0_1 a0_2 a0_3) else (spec_l10EntryOk.j0 k true a0_0 a0_1 a0_2 a0_3))) = some r := h
 clear h
 replace H := Option.bind_eq_some_iff.mp H
 obtain ⟨⟨t295, t296⟩, A20, H⟩ := H
 have A2 := Aside0.mk A20
 clear A20
 have HC3 := Aside0.mk H
 clear H
 go_enter Tryd.func27, Tryd.ntmps27
 go_upto_region 2 with (first | ((with_reducible refine gate_dst (N := 1) rfl ?_); (try (refine gate_guard (by rfl) ?_; dsimp only)); refine bE_ 1 #[.string a0_0, .int .i64 a0_1, .string a0_2, .bool a0_3] 29 ?_; intro gb294 hg w4 hbox hb; have BK294 := Aside0.mk (hbox); have GW294 := Aside0.mk ((ge_ hg (bw_ HB))); have GE294 := Aside0.mk ((ge_ hg (bw_ HB))); replace HB := Aside0.mk (below_step (bw_ HB) hb); clear hb hbox hg; obtain ⟨hcz5_0, hcz5_1, hcz5_2, hcz5_3, hfz5_0, hfz5_1, hfz5_2, hfz5_3⟩ := zc4_ BK294) | ((with_reducible refine gate_callee (f := 51) rfl ?_); refine gL_ (some 8) Tryd.func51 #[.string a0_0] ?_; (with_reducible refine (spec_l10Names.calls k a0_0 t295 t296 _ A2.out).mono ?_); rintro e w6 ⟨v297, rfl, ho0, hb⟩; refine ⟨_, rfl, ?_⟩; have HO298 := Aside0.mk (Kd.R_lower ho0 (below_size (bw1_ HB GE294))); replace BK294 := Aside0.mk (blk_below (bk_ BK294) hb); replace HB := Aside0.mk (below_step (bw1_ HB GE294) hb); clear hb; (try clear ho0)))
 (try simp only [Act.put, List.setIfInBounds_toArray, List.set_cons_zero, List.set_cons_succ])
 go_cut [18] (fun v18 wc => ∃ (kq : Nat) (x18_2 : Bool), v18 = .bool x18_2 ∧ Aside0 (spec_l10EntryOk.j0 kq x18_2 a0_0 a0_1 a0_2 a0_3 = some r) ∧ Aside0 (kq ≤ k) ∧ Aside0 (wc.heap[gb294]? = some (.cells #[.string a0_0, .int .i64 a0_1, .string a0_2, .bool a0_3] 29 (0, 0))) ∧ Aside0 (Below w.heap.size w wc))
 case first =>
  have H := HC3.out
  clear HC3
  by_cases c7 : t296 = true
  {
  subst c7
  rw [if_pos rfl] at H
  have H' := Aside0.mk H
  clear H
  obtain ⟨hcz8_0, hcz8_1, hcz8_2, hcz8_3, hfz8_0, hfz8_1, hfz8_2, hfz8_3⟩ := zc4_ BK294
  go_wp2
  go_meet
  case rel => exact ⟨_, (decide ((a0_2.size : Int) > 20000)), (by first | rfl | (simp; done) | (simp [*]; done)), H', ⟨by first | omega | exact Nat.le_refl _⟩, ⟨bk_ BK294⟩, ⟨bw1_ HB GE294⟩⟩}
  {
  replace c7 := Bool.eq_false_iff.mpr c7
  subst c7
  rw [if_neg (show ¬ (false = true) by decide)] at H
  have H' := Aside0.mk H
  clear H
  go_wp2
  go_meet
  case rel => exact ⟨_, (true), (by first | rfl | (simp; done) | (simp [*]; done)), H', ⟨by first | omega | exact Nat.le_refl _⟩, ⟨bk_ BK294⟩, ⟨bw1_ HB GE294⟩⟩}
 case rest =>
  clear HC3
  try clear c2
  try clear p2
  try clear c5
  try clear c7
  try clear hcz5_0 hcz5_1 hcz5_2 hcz5_3
  try clear hcz8_0 hcz8_1 hcz8_2 hcz8_3
  try clear hfz5_0 hfz5_1 hfz5_2 hfz5_3
  try clear hfz8_0 hfz8_1 hfz8_2 hfz8_3
  obtain ⟨kq, x18_2, rfl, HA, HJ2, BK294, HB⟩ := hcut
  cases kq with
  | zero => exact absurd HA.out (by simp [spec_l10EntryOk.j0])
  | succ kj2 =>
   have H := HA.out
   clear HA
   simp only [spec_l10EntryOk.j0] at H
   by_cases c9 : x18_2 = true
   {
   subst c9
   rw [if_pos rfl] at H
   obtain rfl := Option.some.inj H
   go_wp2
   go_ret
   exact ⟨eR_, bw1_ HB GE294⟩}
   {
   replace c9 := Bool.eq_false_iff.mpr c9
   subst c9
   rw [if_neg (show ¬ (false = true) by decide)] at H
   by_cases c10 : a0_1 = 1
   {
   rw [if_pos c10] at H
   have c10b0 : (a0_1 == 1) = true := beq_iff_eq.mpr c10
   have c10b1 : (a0_1 != 1) = false := bne_eq_false_iff_eq.mpr c10
   clear c10
   by_cases c11 : a0_2.toList = ([] : List UInt8)
   {
   rw [if_pos c11] at H
   have c11b0 : (a0_2.toList == ([] : List UInt8)) = true := beq_iff_eq.mpr c11
   have c11b1 : (a0_2.toList != ([] : List UInt8)) = false := bne_eq_false_iff_eq.mpr c11
   clear c11
   obtain rfl := Option.some.inj H
   obtain ⟨hcz12_0, hcz12_1, hcz12_2, hcz12_3, hfz12_0, hfz12_1, hfz12_2, hfz12_3⟩ := zc4_ BK294
   go_wp2
   go_ret
   exact ⟨eR_, bw1_ HB GE294⟩}
   {
   rw [if_neg c11] at H
   have c11b0 : (a0_2.toList == ([] : List UInt8)) = false := beq_eq_false_iff_ne.mpr c11
   have c11b1 : (a0_2.toList != ([] : List UInt8)) = true := bne_iff_ne.mpr c11
   obtain rfl := Option.some.inj H
   obtain ⟨hcz13_0, hcz13_1, hcz13_2, hcz13_3, hfz13_0, hfz13_1, hfz13_2, hfz13_3⟩ := zc4_ BK294
   go_wp2
   go_ret
   exact ⟨eR_, bw1_ HB GE294⟩}}
   {
   rw [if_neg c10] at H
   have c10b0 : (a0_1 == 1) = false := beq_eq_false_iff_ne.mpr c10
   have c10b1 : (a0_1 != 1) = true := bne_iff_ne.mpr c10
   by_cases c14 : a0_1 = 2
   {
   rw [if_pos c14] at H
   have c14b0 : (a0_1 == 2) = true := beq_iff_eq.mpr c14
   have c14b1 : (a0_1 != 2) = false := bne_eq_false_iff_eq.mpr c14
   clear c14
   obtain rfl := Option.some.inj H
   obtain ⟨hcz15_0, hcz15_1, hcz15_2, hcz15_3, hfz15_0, hfz15_1, hfz15_2, hfz15_3⟩ := zc4_ BK294
   go_wp2
   go_ret
   exact ⟨eR_, bw1_ HB GE294⟩}
   {
   rw [if_neg c14] at H
   have c14b0 : (a0_1 == 2) = false := beq_eq_false_iff_ne.mpr c14
   have c14b1 : (a0_1 != 2) = true := bne_iff_ne.mpr c14
   by_cases c16 : a0_1 = 3
   {
   rw [if_pos c16] at H
   have c16b0 : (a0_1 == 3) = true := beq_iff_eq.mpr c16
   have c16b1 : (a0_1 != 3) = false := bne_eq_false_iff_eq.mpr c16
   clear c16
   by_cases c17 : a0_2.toList = ([] : List UInt8)
   {
   rw [if_pos c17] at H
   have c17b0 : (a0_2.toList == ([] : List UInt8)) = true := beq_iff_eq.mpr c17
   have c17b1 : (a0_2.toList != ([] : List UInt8)) = false := bne_eq_false_iff_eq.mpr c17
   clear c17
   obtain rfl := Option.some.inj H
   obtain ⟨hcz18_0, hcz18_1, hcz18_2, hcz18_3, hfz18_0, hfz18_1, hfz18_2, hfz18_3⟩ := zc4_ BK294
   go_wp2
   go_ret
   exact ⟨eR_, bw1_ HB GE294⟩}
   {
   rw [if_neg c17] at H
   have c17b0 : (a0_2.toList == ([] : List UInt8)) = false := beq_eq_false_iff_ne.mpr c17
   have c17b1 : (a0_2.toList != ([] : List UInt8)) = true := bne_iff_ne.mpr c17
   obtain rfl := Option.some.inj H
   obtain ⟨hcz19_0, hcz19_1, hcz19_2, hcz19_3, hfz19_0, hfz19_1, hfz19_2, hfz19_3⟩ := zc4_ BK294
   go_wp2
   go_ret
   exact ⟨eR_, bw1_ HB GE294⟩}}
   {
   rw [if_neg c16] at H
   have c16b0 : (a0_1 == 3) = false := beq_eq_false_iff_ne.mpr c16
   have c16b1 : (a0_1 != 3) = true := bne_iff_ne.mpr c16
   obtain rfl := Option.some.inj H
   obtain ⟨hcz20_0, hcz20_1, hcz20_2, hcz20_3, hfz20_0, hfz20_1, hfz20_2, hfz20_3⟩ := zc4_ BK294
   go_wp2
   go_ret
   exact ⟨eR_, bw1_ HB GE294⟩}}}}
def spec_l10Find.l0 : Nat → List (S29) → ByteArray → Int → Int → Option (Int)
 | 0, _, _, _, _ => none
 | k + 1, x0, x1, x5, x6 => if x5 < x6 then (if 0 ≤ (wrap64 (Int.tdiv (wrap64 (x5 + x6)) 2)) then (if (wrap64 (Int.tdiv (wrap64 (x5 + x6)) 2)) < (x0.length : Int) then (if (Op.bytesLess (((rd_T29 x0 (wrap64 (Int.tdiv (wrap64 (x5 + x6)) 2))).f0).toList) x1.toList) = true then (spec_l10Find.l0 k x0 x1 (wrap64 ((wrap64 (Int.tdiv (wrap64 (x5 + x6)) 2)) + 1)) x6) else (spec_l10Find.l0 k x0 x1 x5 (wrap64 (Int.tdiv (wrap64 (x5 + x6)) 2)))) else (none)) else (none)) else (if x5 < (x0.length : Int) then (if 0 ≤ x5 then (if ((rd_T29 x0 x5).f0).toList = x1.toList then (some x5) else (some (-1))) else (none)) else (some (-1)))
def spec_l10Find.f (k : Nat) (l0 : List (S29)) (a1 : ByteArray) : Option (Int) := spec_l10Find.l0 k l0 a1 0 (l0.length : Int)
theorem spec_l10Find.calls (k : Nat) (A0 : Option Addr) (c0 : Nat) (l0 : List (S29)) (a1 : ByteArray) (r : Int) (w : World) (hr0 : Kd.C k29 w A0 l0.length l0) (hc0 : l0.length ≤ c0) (h : spec_l10Find.f k l0 a1 = some r) :
 Calls Tryd.prog 52 #[.slice A0 l0.length c0, .string a1] w fun e w' => e = .returned (.int .i64 r) ∧ Drawn0 w w' := by
 have HR0 := Aside0.mk hr0
 have HC0 := Aside0.mk hc0
 clear hr0 hc0
 have H : (spec_l10Find.l0 k l0 a1 0 (l0.length : Int)) = some r := h
 clear h
 have H' := Aside0.mk H
 clear H
 go_enter Tryd.func52, Tryd.ntmps52
 go_wp2
 go_loopg [5, 6] k (fun kq v5 v6 w' => ∃ (x5_1 : Int) (x6_1 : Int), v5 = .int .i64 x5_1 ∧ v6 = .int .i64 x6_1 ∧ Aside0 (spec_l10Find.l0 kq l0 a1 x5_1 x6_1 = some r) ∧ Aside0 (kq ≤ k) ∧ Drawn0 w w')
 case atStart => exact ⟨(0), ((l0.length : Int)), (by first | rfl | (simp; done) | (simp [*]; done)), (by first | rfl | (simp; done) | (simp [*]; done)), H', ⟨Nat.le_refl _⟩, dR_⟩
 case round =>
  clear H'
  try clear p2
  obtain ⟨x5_1, x6_1, rfl, rfl, HA, HK1, ⟨m1, rfl⟩⟩ := hrel
  cases gk with
  | zero => exact absurd HA.out (by simp [spec_l10Find.l0])
  | succ k1 =>
   have H := HA.out
   clear HA
   simp only [spec_l10Find.l0] at H
   by_cases c3 : x5_1 < x6_1
   {
   rw [if_pos c3] at H
   have c3b0 := decide_eq_true c3
   clear c3
   obtain ⟨ji4, hji4⟩ : ∃ j_ : Int, (wrap64 (Int.tdiv (wrap64 (x5_1 + x6_1)) 2)) = j_ := ⟨_, rfl⟩
   replace H : (if 0 ≤ (ji4) then (if (ji4) < (l0.length : Int) then (if (Op.bytesLess (((rd_T29 l0 (ji4)).f0).toList) a1.toList) = true then (spec_l10Find.l0 k1 l0 a1 (wrap64 ((ji4) + 1)) x6_1) else (spec_l10Find.l0 k1 l0 a1 x5_1 ji4)) else (none)) else (none)) = some r := by first | (rw [hji4] at H; exact H) | (simp only [hji4] at H ⊢; exact H)
   have hji4w : (IntKind.i64.wrap (Int.tdiv (wrap64 (x5_1 + x6_1)) 2)) = ji4 := (i64_w _).trans hji4
   by_cases c5 : 0 ≤ (ji4)
   {
   rw [if_pos c5] at H
   have c5b0 := decide_eq_true c5
   clear c5
   by_cases c6 : (ji4) < (l0.length : Int)
   {
   rw [if_pos c6] at H
   have c6b0 := decide_eq_true c6
   clear c6
   by_cases c7 : (Op.bytesLess (((rd_T29 l0 (ji4)).f0).toList) a1.toList) = true
   {
   rw [if_pos c7] at H
   have c7b0 : (Op.bytesLess (((rd_T29 l0 (ji4)).f0).toList) a1.toList) = true := c7
   clear c7
   have H' := Aside0.mk H
   clear H
   have p299 : 0 ≤ ((ji4) : Int) := dA_
   have q299 : (ji4) < (l0.length : Int) := dA_
   obtain ⟨ad299, e299, hx299_0, hx299_1, hx299_2, hx299_3⟩ := at_T29 HR0.out (ji4) p299 q299
   cases e299
   replace p299 := eq_true p299
   replace q299 := eq_true q299
   go_wp2
   go_roundg k1
   case measure => have := HK1.out; omega
   case rel => exact ⟨(wrap64 ((ji4) + 1)), (x6_1), (by first | rfl | (simp; done) | (simp only [← hji4] <;> (first | rfl | simp)) | (simp [*]; done)), (by first | rfl | (simp; done) | (simp [*]; done)), H', ⟨by have := HK1.out; omega⟩, dR_⟩}
   {
   rw [if_neg c7] at H
   have c7b0 : (Op.bytesLess (((rd_T29 l0 (ji4)).f0).toList) a1.toList) = false := by simpa using c7
   clear c7
   have H' := Aside0.mk H
   clear H
   have p299 : 0 ≤ ((ji4) : Int) := dA_
   have q299 : (ji4) < (l0.length : Int) := dA_
   obtain ⟨ad299, e299, hx299_0, hx299_1, hx299_2, hx299_3⟩ := at_T29 HR0.out (ji4) p299 q299
   cases e299
   replace p299 := eq_true p299
   replace q299 := eq_true q299
   go_wp2
   go_roundg k1
   case measure => have := HK1.out; omega
   case rel => exact ⟨(x5_1), (ji4), (by first | rfl | (simp; done) | (simp [*]; done)), (by first | rfl | (simp; done) | (simp only [← hji4] <;> (first | rfl | simp)) | (simp [*]; done)), H', ⟨by have := HK1.out; omega⟩, dR_⟩}}
   {
   rw [if_neg c6] at H
   exact absurd H (by simp)}}
   {
   rw [if_neg c5] at H
   exact absurd H (by simp)}}
   {
   rw [if_neg c3] at H
   have c3b0 := decide_eq_false c3
   clear c3
   by_cases c8 : x5_1 < (l0.length : Int)
   {
   rw [if_pos c8] at H
   have c8b0 := decide_eq_true c8
   clear c8
   by_cases c9 : 0 ≤ x5_1
   {
   rw [if_pos c9] at H
   have c9b0 := decide_eq_true c9
   clear c9
   by_cases c10 : ((rd_T29 l0 x5_1).f0).toList = a1.toList
   {
   rw [if_pos c10] at H
   have c10b0 : (((rd_T29 l0 x5_1).f0).toList == a1.toList) = true := beq_iff_eq.mpr c10
   have c10b1 : (((rd_T29 l0 x5_1).f0).toList != a1.toList) = false := bne_eq_false_iff_eq.mpr c10
   clear c10
   obtain rfl := Option.some.inj H
   have p300 : 0 ≤ (x5_1 : Int) := dA_
   have q300 : x5_1 < (l0.length : Int) := dA_
   obtain ⟨ad300, e300, hx300_0, hx300_1, hx300_2, hx300_3⟩ := at_T29 HR0.out x5_1 p300 q300
   cases e300
   replace p300 := eq_true p300
   replace q300 := eq_true q300
   go_wp2
   go_ret
   exact ⟨eS_, dR_⟩}
   {
   rw [if_neg c10] at H
   have c10b0 : (((rd_T29 l0 x5_1).f0).toList == a1.toList) = false := beq_eq_false_iff_ne.mpr c10
   have c10b1 : (((rd_T29 l0 x5_1).f0).toList != a1.toList) = true := bne_iff_ne.mpr c10
   obtain rfl := Option.some.inj H
   have p300 : 0 ≤ (x5_1 : Int) := dA_
   have q300 : x5_1 < (l0.length : Int) := dA_
   obtain ⟨ad300, e300, hx300_0, hx300_1, hx300_2, hx300_3⟩ := at_T29 HR0.out x5_1 p300 q300
   cases e300
   replace p300 := eq_true p300
   replace q300 := eq_true q300
   go_wp2
   go_ret
   exact ⟨eS_, dR_⟩}}
   {
   rw [if_neg c9] at H
   exact absurd H (by simp)}}
   {
   rw [if_neg c8] at H
   have c8b0 := decide_eq_false c8
   clear c8
   obtain rfl := Option.some.inj H
   go_wp2
   go_ret
   exact ⟨eS_, dR_⟩}}
def spec_l10Dir.f (k : Nat) (l0 : List (S29)) (a1 : ByteArray) : Option (Bool) := (spec_l10Find.f k l0 a1).bind fun t301 => (if t301 ≥ 0 then (if 0 ≤ t301 then (if t301 < (l0.length : Int) then (some (((rd_T29 l0 t301).f1) == 1)) else (none)) else (none)) else (some false))
theorem spec_l10Dir.calls (k : Nat) (A0 : Option Addr) (c0 : Nat) (l0 : List (S29)) (a1 : ByteArray) (r : Bool) (w : World) (hr0 : Kd.C k29 w A0 l0.length l0) (hc0 : l0.length ≤ c0) (h : spec_l10Dir.f k l0 a1 = some r) :
 Calls Tryd.prog 29 #[.slice A0 l0.length c0, .string a1] w fun e w' => e = .returned (.bool r) ∧ Drawn0 w w' := by
 have HR0 := Aside0.mk hr0
 have HC0 := Aside0.mk hc0
 clear hr0 hc0
 have H : ((spec_l10Find.f k l0 a1).bind fun t301 => (if t301 ≥ 0 then (if 0 ≤ t301 then (if t301 < (l0.length : Int) then (some (((rd_T29 l0 t301).f1) == 1)) else (none)) else (none)) else (some false))) = some r := h
 clear h
 replace H := Option.bind_eq_some_iff.mp H
 obtain ⟨t301, A30, H⟩ := H
 have A3 := Aside0.mk A30
 clear A30
 by_cases c4 : t301 ≥ 0
 {
 rw [if_pos c4] at H
 have c4b0 : decide (0 ≤ t301) = true := decide_eq_true c4
 clear c4
 by_cases c5 : 0 ≤ t301
 {
 rw [if_pos c5] at H
 have c5b0 := decide_eq_true c5
 clear c5
 by_cases c6 : t301 < (l0.length : Int)
 {
 rw [if_pos c6] at H
 have c6b0 := decide_eq_true c6
 clear c6
 obtain rfl := Option.some.inj H
 go_enter Tryd.func29, Tryd.ntmps29
 go_wp2_with (first | ((with_reducible refine gate_callee (f := 52) rfl ?_); refine gL_ (some 8) Tryd.func52 #[.slice A0 l0.length c0, .string a1] ?_; (with_reducible refine (spec_l10Find.calls k _ _ l0 a1 t301 _ ?side1 ?side2 A3.out).mono ?_); (case side1 => exact cc_ HR0); (case side2 => exact HC0.out); rintro e w' ⟨rfl, ⟨nd, rfl⟩⟩; refine ⟨_, rfl, ?_⟩; have p302 : 0 ≤ (t301 : Int) := dA_; have q302 : t301 < (l0.length : Int) := dA_; obtain ⟨ad302, e302, hx302_0, hx302_1, hx302_2, hx302_3⟩ := at_T29 HR0.out t301 p302 q302; cases e302; replace p302 := eq_true p302; replace q302 := eq_true q302))
 go_ret
 exact ⟨eS_, dR_⟩}
 {
 rw [if_neg c6] at H
 exact absurd H (by simp)}}
 {
 rw [if_neg c5] at H
 exact absurd H (by simp)}}
 {
 rw [if_neg c4] at H
 have c4b0 : decide (0 ≤ t301) = false := decide_eq_false c4
 clear c4
 obtain rfl := Option.some.inj H
 go_enter Tryd.func29, Tryd.ntmps29
 go_wp2_with (first | ((with_reducible refine gate_callee (f := 52) rfl ?_); refine gL_ (some 8) Tryd.func52 #[.slice A0 l0.length c0, .string a1] ?_; (with_reducible refine (spec_l10Find.calls k _ _ l0 a1 t301 _ ?side1 ?side2 A3.out).mono ?_); (case side1 => exact cc_ HR0); (case side2 => exact HC0.out); rintro e w' ⟨rfl, ⟨nd, rfl⟩⟩; refine ⟨_, rfl, ?_⟩))
 go_ret
 exact ⟨eS_, dR_⟩
}
mutual
def spec_TreeOk.l0 : Nat → List (S29) → Int → Option (Bool)
 | 0, _, _ => none
 | k + 1, x0, x3 => if x3 < (x0.length : Int) then (if 0 ≤ x3 then ((spec_l10EntryOk.f k ((rd_T29 x0 x3).f0) ((rd_T29 x0 x3).f1) ((rd_T29 x0 x3).f2) ((rd_T29 x0 x3).f3)).bind fun t448 => (if t448 = true then (if x3 > 0 then (if 0 ≤ (wrap64 (x3 - 1)) then (if (wrap64 (x3 - 1)) < (x0.length : Int) then (spec_TreeOk.j1 k x0 x3 (!(Op.bytesLess (((rd_T29 x0 (wrap64 (x3 - 1))).f0).toList) (((rd_T29 x0 x3).f0).toList)))) else (none)) else (none)) else (spec_TreeOk.j1 k x0 x3 false)) else (spec_TreeOk.j1 k x0 x3 true))) else (none)) else (some true)
def spec_TreeOk.j1 : Nat → List (S29) → Int → Bool → Option (Bool)
 | 0, _, _, _ => none
 | k + 1, x0, x3, x37 => if x37 = true then (some false) else (if 0 ≤ x3 then (if x3 < (x0.length : Int) then ((spec_l10Up.f k ((rd_T29 x0 x3).f0)).bind fun t452 => (if t452.toList = ([] : List UInt8) then (spec_TreeOk.l0 k x0 (wrap64 (x3 + 1))) else (if x3 ≤ (x0.length : Int) then ((spec_l10Dir.f k (x0.take (x3 : Int).toNat) t452).bind fun t457 => (if t457 = true then (spec_TreeOk.l0 k x0 (wrap64 (x3 + 1))) else (some false))) else (none)))) else (none)) else (none))
end
def spec_TreeOk.f (k : Nat) (l0 : List (S29)) : Option (Bool) := if (l0.length : Int) > 500 then (some false) else (spec_TreeOk.l0 k l0 0)
def spec_TreeOk.T6 : Bool × List (List Nat × List Nat) := (true, [([], []), ([], []), ([0, 1], [0, 1]), ([2], [2]), ([3], [3]), ([4], [4]), ([5, 4], [5]), ([6], [6]), ([7, 6], [6, 7]), ([8, 6, 6], [6, 8]), ([9], [9]), ([9], [9]), ([11, 9], [9, 11]), ([10, 12, 9], [9, 10, 12]), ([13, 9], [9, 13]), ([14, 9], [9, 14]), ([9], [9]), ([9], [9]), ([16, 17, 9], [9, 16, 17]), ([18, 9], [9, 18]), ([19, 9], [9, 19]), ([15, 20, 9], [9, 15, 20]), ([9, 21, 6], [6, 9, 21]), ([6, 22], [6, 22])])
def spec_TreeOk.B6 : List Nat := [0, 0, 3, 7, 15, 31, 63, 127, 255, 511, 1023, 1023, 3071, 8191, 16383, 32767, 1023, 1023, 197631, 459775, 984063, 2097151, 4194303, 8388607]
theorem spec_TreeOk.tab6 : rtab .any (opsOf Tryd.f8 6) = spec_TreeOk.T6 := by kernel_rfl
theorem spec_TreeOk.bits6 : waitsOk spec_TreeOk.T6.2 spec_TreeOk.B6 = true := by kernel_rfl
theorem spec_TreeOk.calls (k : Nat) (A0 : Option Addr) (c0 : Nat) (l0 : List (S29)) (r : Bool) (w : World) (hr0 : Kd.C k29 w A0 l0.length l0) (hc0 : l0.length ≤ c0) (h : spec_TreeOk.f k l0 = some r) :
 Calls Tryd.prog 8 #[.slice A0 l0.length c0] w fun e w' => e = .returned (.bool r) ∧ Below w.heap.size w w' := by
 have hu29 := Tryd.underlying29
 have HR0 := Aside0.mk hr0
 have HC0 := Aside0.mk hc0
 clear hr0 hc0
 have HB := Aside0.mk (Below.refl w.heap.size w)
 have H : (if (l0.length : Int) > 500 then (some false) else (spec_TreeOk.l0 k l0 0)) = some r := h
 clear h
 by_cases c2 : (l0.length : Int) > 500
 {
 rw [if_pos c2] at H
 have c2b0 : decide (500 < (l0.length : Int)) = true := decide_eq_true c2
 have c2b1 : decide (500 < l0.length) = true := decide_eq_true (by omega)
 clear c2
 obtain rfl := Option.some.inj H
 go_enter Tryd.func8, Tryd.ntmps8
 go_wp2
 go_ret
 exact ⟨eR_, bw_ HB⟩}
 {
 rw [if_neg c2] at H
 have c2b0 : decide (500 < (l0.length : Int)) = false := decide_eq_false c2
 have c2b1 : decide (500 < l0.length) = false := decide_eq_false (by omega)
 clear c2
 have H' := Aside0.mk H
 clear H
 go_enter Tryd.func8, Tryd.ntmps8
 go_wp2
 go_loopg [3] k (fun kq v3 w' => ∃ (x3_1 : Int), v3 = .int .i64 x3_1 ∧ Aside0 (spec_TreeOk.l0 kq l0 x3_1 = some r) ∧ Aside0 (kq ≤ k) ∧ Aside0 (Below w.heap.size w w'))
 case atStart => exact ⟨(0), (by first | rfl | (simp; done) | (simp [*]; done)), H', ⟨Nat.le_refl _⟩, ⟨bw_ HB⟩⟩
 case round =>
  clear H'
  try clear c2
  try clear c2b0
  try clear c2b1
  try clear p2
  obtain ⟨x3_1, rfl, HA, HK1, HB⟩ := hrel
  cases gk with
  | zero => exact absurd HA.out (by simp [spec_TreeOk.l0])
  | succ k1 =>
   have H := HA.out
   clear HA
   simp only [spec_TreeOk.l0] at H
   by_cases c3 : x3_1 < (l0.length : Int)
   {
   rw [if_pos c3] at H
   have c3b0 := decide_eq_true c3
   clear c3
   have HC4 := Aside0.mk H
   clear H
   go_upto_region 6 with (fail)
   go_cut [37] (fun v37 wc => ∃ (kq : Nat) (x37_3 : Bool), v37 = .bool x37_3 ∧ Aside0 (spec_TreeOk.j1 kq l0 x3_1 x37_3 = some r) ∧ Aside0 (kq ≤ k1) ∧ Aside0 (Below w.heap.size w wc))
   case first =>
    have H := HC4.out
    clear HC4
    by_cases c5 : 0 ≤ x3_1
    {
    rw [if_pos c5] at H
    have c5b0 := decide_eq_true c5
    clear c5
    (first | rw [c5b0] | (simp only [i64_w, i32_w]; rw [c5b0]) | skip)
    replace H := Option.bind_eq_some_iff.mp H
    obtain ⟨t448, A60, H⟩ := H
    have A6 := Aside0.mk A60
    clear A60
    by_cases c7 : t448 = true
    {
    subst c7
    rw [if_pos rfl] at H
    by_cases c8 : x3_1 > 0
    {
    rw [if_pos c8] at H
    have c8b0 : decide (0 < x3_1) = true := decide_eq_true c8
    clear c8
    obtain ⟨ji9, hji9⟩ : ∃ j_ : Int, (wrap64 (x3_1 - 1)) = j_ := ⟨_, rfl⟩
    replace H : (if 0 ≤ (ji9) then (if (ji9) < (l0.length : Int) then (spec_TreeOk.j1 k1 l0 x3_1 (!(Op.bytesLess (((rd_T29 l0 (ji9)).f0).toList) (((rd_T29 l0 x3_1).f0).toList)))) else (none)) else (none)) = some r := by first | (rw [hji9] at H; exact H) | (simp only [hji9] at H ⊢; exact H)
    (try rw [hji9] at A6)
    have hji9w : (IntKind.i64.wrap (x3_1 - 1)) = ji9 := (i64_w _).trans hji9
    by_cases c10 : 0 ≤ (ji9)
    {
    rw [if_pos c10] at H
    have c10b0 := decide_eq_true c10
    clear c10
    by_cases c11 : (ji9) < (l0.length : Int)
    {
    rw [if_pos c11] at H
    have c11b0 := decide_eq_true c11
    clear c11
    have H' := Aside0.mk H
    clear H
    try go_wp2
    replace HB := Aside0.mk (below_drew1 HB.out)
    have p447 : 0 ≤ (x3_1 : Int) := dA_
    have q447 : x3_1 < (l0.length : Int) := dA_
    obtain ⟨ad447, e447, hx447_0, hx447_1, hx447_2, hx447_3⟩ := at_T29 HR0.out x3_1 p447 q447
    have hw447_3 := hx447_3
    have hw447_2 := hx447_2
    have hw447_1 := hx447_1
    have hw447_0 := hx447_0
    cases e447
    replace hx447_0 := hX_ HB hx447_0
    replace hx447_1 := hX_ HB hx447_1
    replace hx447_2 := hX_ HB hx447_2
    replace hx447_3 := hX_ HB hx447_3
    replace p447 := eq_true p447
    replace q447 := eq_true q447
    have p449 : 0 ≤ ((ji9) : Int) := dA_
    have q449 : (ji9) < (l0.length : Int) := dA_
    obtain ⟨ad449, e449, hx449_0, hx449_1, hx449_2, hx449_3⟩ := at_T29 HR0.out (ji9) p449 q449
    have hw449_3 := hx449_3
    have hw449_2 := hx449_2
    have hw449_1 := hx449_1
    have hw449_0 := hx449_0
    obtain rfl : ad447 = ad449 := (by injection e449)
    replace hx449_0 := hX_ HB hx449_0
    replace hx449_1 := hX_ HB hx449_1
    replace hx449_2 := hX_ HB hx449_2
    replace hx449_3 := hX_ HB hx449_3
    replace p449 := eq_true p449
    replace q449 := eq_true q449
    have p450 : 0 ≤ (x3_1 : Int) := dA_
    have q450 : x3_1 < (l0.length : Int) := dA_
    obtain ⟨ad450, e450, hx450_0, hx450_1, hx450_2, hx450_3⟩ := at_T29 HR0.out x3_1 p450 q450
    have hw450_3 := hx450_3
    have hw450_2 := hx450_2
    have hw450_1 := hx450_1
    have hw450_0 := hx450_0
    obtain rfl : ad447 = ad450 := (by injection e450)
    replace hx450_0 := hX_ HB hx450_0
    replace hx450_1 := hX_ HB hx450_1
    replace hx450_2 := hX_ HB hx450_2
    replace hx450_3 := hX_ HB hx450_3
    replace p450 := eq_true p450
    replace q450 := eq_true q450
    refine start_ (n := 24) (S := fun w' => w'.cell? (ad447.add ((x3_1).toNat * 4)) = some (.string ((rd_T29 l0 x3_1).f0)) ∧ w'.cell? ⟨(ad447.add ((x3_1).toNat * 4)).block, (ad447.add ((x3_1).toNat * 4)).off + 1, none⟩ = some (.int .i64 ((rd_T29 l0 x3_1).f1)) ∧ w'.cell? ⟨(ad447.add ((x3_1).toNat * 4)).block, (ad447.add ((x3_1).toNat * 4)).off + 2, none⟩ = some (.string ((rd_T29 l0 x3_1).f2)) ∧ w'.cell? ⟨(ad447.add ((x3_1).toNat * 4)).block, (ad447.add ((x3_1).toNat * 4)).off + 3, none⟩ = some (.bool ((rd_T29 l0 x3_1).f3)) ∧ w'.cell? (ad447.add (((ji9)).toNat * 4)) = some (.string ((rd_T29 l0 (ji9)).f0)) ∧ w'.cell? ⟨(ad447.add (((ji9)).toNat * 4)).block, (ad447.add (((ji9)).toNat * 4)).off + 1, none⟩ = some (.int .i64 ((rd_T29 l0 (ji9)).f1)) ∧ w'.cell? ⟨(ad447.add (((ji9)).toNat * 4)).block, (ad447.add (((ji9)).toNat * 4)).off + 2, none⟩ = some (.string ((rd_T29 l0 (ji9)).f2)) ∧ w'.cell? ⟨(ad447.add (((ji9)).toNat * 4)).block, (ad447.add (((ji9)).toNat * 4)).off + 3, none⟩ = some (.bool ((rd_T29 l0 (ji9)).f3)) ∧ w'.cell? (ad447.add ((x3_1).toNat * 4)) = some (.string ((rd_T29 l0 x3_1).f0)) ∧ w'.cell? ⟨(ad447.add ((x3_1).toNat * 4)).block, (ad447.add ((x3_1).toNat * 4)).off + 1, none⟩ = some (.int .i64 ((rd_T29 l0 x3_1).f1)) ∧ w'.cell? ⟨(ad447.add ((x3_1).toNat * 4)).block, (ad447.add ((x3_1).toNat * 4)).off + 2, none⟩ = some (.string ((rd_T29 l0 x3_1).f2)) ∧ w'.cell? ⟨(ad447.add ((x3_1).toNat * 4)).block, (ad447.add ((x3_1).toNat * 4)).off + 3, none⟩ = some (.bool ((rd_T29 l0 x3_1).f3))) (ds := []) (bs_ 24 0) (by kernel_rfl) rfl (by kernel_rfl) ⟨((HB.out.cell (World.block_lt_of_cell? w _ hw447_0)).trans hw447_0), ((HB.out.cell (World.block_lt_of_cell? w _ hw447_1)).trans hw447_1), ((HB.out.cell (World.block_lt_of_cell? w _ hw447_2)).trans hw447_2), ((HB.out.cell (World.block_lt_of_cell? w _ hw447_3)).trans hw447_3), ((HB.out.cell (World.block_lt_of_cell? w _ hw449_0)).trans hw449_0), ((HB.out.cell (World.block_lt_of_cell? w _ hw449_1)).trans hw449_1), ((HB.out.cell (World.block_lt_of_cell? w _ hw449_2)).trans hw449_2), ((HB.out.cell (World.block_lt_of_cell? w _ hw449_3)).trans hw449_3), ((HB.out.cell (World.block_lt_of_cell? w _ hw450_0)).trans hw450_0), ((HB.out.cell (World.block_lt_of_cell? w _ hw450_1)).trans hw450_1), ((HB.out.cell (World.block_lt_of_cell? w _ hw450_2)).trans hw450_2), ((HB.out.cell (World.block_lt_of_cell? w _ hw450_3)).trans hw450_3)⟩ (fun hHeld => ?_); refine with_tabW spec_TreeOk.tab6 spec_TreeOk.bits6 (fun HT_ HW_ => ?_)
    generalize wr.drew = w12 at HB hx447_0 hx447_1 hx447_2 hx447_3 hx449_0 hx449_1 hx449_2 hx449_3 hx450_0 hx450_1 hx450_2 hx450_3 hHeld ⊢
    refine pS_ 0 ?_
    refine pS_ 1 ?_
    refine pS_ 2 ?_
    refine t12_ 3 hHeld ?_
    refine oS_ 4 (fun K hK => ?_)
    refine gS_ Tryd.func27 #[.agg #[.string ((rd_T29 l0 x3_1).f0), .int .i64 ((rd_T29 l0 x3_1).f1), .string ((rd_T29 l0 x3_1).f2), .bool ((rd_T29 l0 x3_1).f3)]] ?_
    with_reducible refine (spec_l10EntryOk.calls k1 ((rd_T29 l0 x3_1).f0) ((rd_T29 l0 x3_1).f1) ((rd_T29 l0 x3_1).f2) ((rd_T29 l0 x3_1).f3) true _ A6.out).mono ?_
    rintro e w13 ⟨rfl, hb⟩
    refine ⟨_, rfl, ?_⟩
    replace HB := Aside0.mk (below_step (bw_ HB) hb)
    (try clear hb)
    (try clear hb2)
    (try clear hk)
    (try clear hi)
    refine hK.out _ _ ⟨((HB.out.cell (World.block_lt_of_cell? w _ hw447_0)).trans hw447_0), ((HB.out.cell (World.block_lt_of_cell? w _ hw447_1)).trans hw447_1), ((HB.out.cell (World.block_lt_of_cell? w _ hw447_2)).trans hw447_2), ((HB.out.cell (World.block_lt_of_cell? w _ hw447_3)).trans hw447_3), ((HB.out.cell (World.block_lt_of_cell? w _ hw449_0)).trans hw449_0), ((HB.out.cell (World.block_lt_of_cell? w _ hw449_1)).trans hw449_1), ((HB.out.cell (World.block_lt_of_cell? w _ hw449_2)).trans hw449_2), ((HB.out.cell (World.block_lt_of_cell? w _ hw449_3)).trans hw449_3), ((HB.out.cell (World.block_lt_of_cell? w _ hw450_0)).trans hw450_0), ((HB.out.cell (World.block_lt_of_cell? w _ hw450_1)).trans hw450_1), ((HB.out.cell (World.block_lt_of_cell? w _ hw450_2)).trans hw450_2), ((HB.out.cell (World.block_lt_of_cell? w _ hw450_3)).trans hw450_3)⟩ (fun hHeld => ?_)
    clear hK K
    refine nS_ 18 ?_
    refine pS_ 5 ?_
    refine pS_ 6 ?_
    refine pS_ 7 ?_
    refine pS_ 8 ?_
    refine pS_ 9 ?_
    refine pS_ 10 ?_
    refine pS_ 11 ?_
    refine pS_ 12 ?_
    refine pS_ 13 ?_
    refine pS_ 14 ?_
    refine pS_ 16 ?_
    refine pS_ 17 ?_
    refine pS_ 18 ?_
    refine pS_ 19 ?_
    refine t12_ 15 hHeld ?_
    refine t12_ 20 hHeld ?_
    refine pS_ 21 ?_
    refine pS_ 22 ?_
    refine pS_ 23 ?_
    refine done_ (done_of HT_.out (by kernel_rfl)) ?_
    try go_wp2
    go_meet
    case rel => exact ⟨_, (!(Op.bytesLess (((rd_T29 l0 (ji9)).f0).toList) (((rd_T29 l0 x3_1).f0).toList))), (by first | rfl | (simp; done) | (simp only [← hji9] <;> (first | rfl | simp)) | (simp [*]; done)), H', ⟨by have := HK1.out; first | omega | exact Nat.le_refl _⟩, ⟨bw_ HB⟩⟩}
    {
    rw [if_neg c11] at H
    exact absurd H (by simp)}}
    {
    rw [if_neg c10] at H
    exact absurd H (by simp)}}
    {
    rw [if_neg c8] at H
    have c8b0 : decide (0 < x3_1) = false := decide_eq_false c8
    clear c8
    have H' := Aside0.mk H
    clear H
    try go_wp2
    replace HB := Aside0.mk (below_drew1 HB.out)
    have p447 : 0 ≤ (x3_1 : Int) := dA_
    have q447 : x3_1 < (l0.length : Int) := dA_
    obtain ⟨ad447, e447, hx447_0, hx447_1, hx447_2, hx447_3⟩ := at_T29 HR0.out x3_1 p447 q447
    have hw447_3 := hx447_3
    have hw447_2 := hx447_2
    have hw447_1 := hx447_1
    have hw447_0 := hx447_0
    cases e447
    replace hx447_0 := hX_ HB hx447_0
    replace hx447_1 := hX_ HB hx447_1
    replace hx447_2 := hX_ HB hx447_2
    replace hx447_3 := hX_ HB hx447_3
    replace p447 := eq_true p447
    replace q447 := eq_true q447
    refine start_ (n := 24) (S := fun w' => w'.cell? (ad447.add ((x3_1).toNat * 4)) = some (.string ((rd_T29 l0 x3_1).f0)) ∧ w'.cell? ⟨(ad447.add ((x3_1).toNat * 4)).block, (ad447.add ((x3_1).toNat * 4)).off + 1, none⟩ = some (.int .i64 ((rd_T29 l0 x3_1).f1)) ∧ w'.cell? ⟨(ad447.add ((x3_1).toNat * 4)).block, (ad447.add ((x3_1).toNat * 4)).off + 2, none⟩ = some (.string ((rd_T29 l0 x3_1).f2)) ∧ w'.cell? ⟨(ad447.add ((x3_1).toNat * 4)).block, (ad447.add ((x3_1).toNat * 4)).off + 3, none⟩ = some (.bool ((rd_T29 l0 x3_1).f3))) (ds := []) (bs_ 24 0) (by kernel_rfl) rfl (by kernel_rfl) ⟨((HB.out.cell (World.block_lt_of_cell? w _ hw447_0)).trans hw447_0), ((HB.out.cell (World.block_lt_of_cell? w _ hw447_1)).trans hw447_1), ((HB.out.cell (World.block_lt_of_cell? w _ hw447_2)).trans hw447_2), ((HB.out.cell (World.block_lt_of_cell? w _ hw447_3)).trans hw447_3)⟩ (fun hHeld => ?_); refine with_tabW spec_TreeOk.tab6 spec_TreeOk.bits6 (fun HT_ HW_ => ?_)
    generalize wr.drew = w14 at HB hx447_0 hx447_1 hx447_2 hx447_3 hHeld ⊢
    refine pS_ 0 ?_
    refine pS_ 1 ?_
    refine pS_ 2 ?_
    refine t4_ 3 hHeld ?_
    refine oS_ 4 (fun K hK => ?_)
    refine gS_ Tryd.func27 #[.agg #[.string ((rd_T29 l0 x3_1).f0), .int .i64 ((rd_T29 l0 x3_1).f1), .string ((rd_T29 l0 x3_1).f2), .bool ((rd_T29 l0 x3_1).f3)]] ?_
    with_reducible refine (spec_l10EntryOk.calls k1 ((rd_T29 l0 x3_1).f0) ((rd_T29 l0 x3_1).f1) ((rd_T29 l0 x3_1).f2) ((rd_T29 l0 x3_1).f3) true _ A6.out).mono ?_
    rintro e w15 ⟨rfl, hb⟩
    refine ⟨_, rfl, ?_⟩
    replace HB := Aside0.mk (below_step (bw_ HB) hb)
    (try clear hb)
    (try clear hb2)
    (try clear hk)
    (try clear hi)
    refine hK.out _ _ ⟨((HB.out.cell (World.block_lt_of_cell? w _ hw447_0)).trans hw447_0), ((HB.out.cell (World.block_lt_of_cell? w _ hw447_1)).trans hw447_1), ((HB.out.cell (World.block_lt_of_cell? w _ hw447_2)).trans hw447_2), ((HB.out.cell (World.block_lt_of_cell? w _ hw447_3)).trans hw447_3)⟩ (fun hHeld => ?_)
    clear hK K
    refine nS_ 18 ?_
    refine pS_ 5 ?_
    refine pS_ 6 ?_
    refine pS_ 7 ?_
    refine pS_ 8 ?_
    refine pS_ 9 ?_
    refine pU_ 10 ?_
    refine pU_ 11 ?_
    refine pU_ 12 ?_
    refine pU_ 13 ?_
    refine pU_ 14 ?_
    refine pU_ 15 ?_
    refine pU_ 16 ?_
    refine pU_ 17 ?_
    refine pU_ 18 ?_
    refine pU_ 19 ?_
    refine pU_ 20 ?_
    refine pU_ 21 ?_
    refine pS_ 22 ?_
    refine pS_ 23 ?_
    refine done_ (done_of HT_.out (by kernel_rfl)) ?_
    try go_wp2
    go_meet
    case rel => exact ⟨_, (false), (by first | rfl | (simp; done) | (simp [*]; done)), H', ⟨by have := HK1.out; first | omega | exact Nat.le_refl _⟩, ⟨bw_ HB⟩⟩}}
    {
    replace c7 := Bool.eq_false_iff.mpr c7
    subst c7
    rw [if_neg (show ¬ (false = true) by decide)] at H
    have H' := Aside0.mk H
    clear H
    try go_wp2
    replace HB := Aside0.mk (below_drew1 HB.out)
    have p447 : 0 ≤ (x3_1 : Int) := dA_
    have q447 : x3_1 < (l0.length : Int) := dA_
    obtain ⟨ad447, e447, hx447_0, hx447_1, hx447_2, hx447_3⟩ := at_T29 HR0.out x3_1 p447 q447
    have hw447_3 := hx447_3
    have hw447_2 := hx447_2
    have hw447_1 := hx447_1
    have hw447_0 := hx447_0
    cases e447
    replace hx447_0 := hX_ HB hx447_0
    replace hx447_1 := hX_ HB hx447_1
    replace hx447_2 := hX_ HB hx447_2
    replace hx447_3 := hX_ HB hx447_3
    replace p447 := eq_true p447
    replace q447 := eq_true q447
    refine start_ (n := 24) (S := fun w' => w'.cell? (ad447.add ((x3_1).toNat * 4)) = some (.string ((rd_T29 l0 x3_1).f0)) ∧ w'.cell? ⟨(ad447.add ((x3_1).toNat * 4)).block, (ad447.add ((x3_1).toNat * 4)).off + 1, none⟩ = some (.int .i64 ((rd_T29 l0 x3_1).f1)) ∧ w'.cell? ⟨(ad447.add ((x3_1).toNat * 4)).block, (ad447.add ((x3_1).toNat * 4)).off + 2, none⟩ = some (.string ((rd_T29 l0 x3_1).f2)) ∧ w'.cell? ⟨(ad447.add ((x3_1).toNat * 4)).block, (ad447.add ((x3_1).toNat * 4)).off + 3, none⟩ = some (.bool ((rd_T29 l0 x3_1).f3))) (ds := []) (bs_ 24 0) (by kernel_rfl) rfl (by kernel_rfl) ⟨((HB.out.cell (World.block_lt_of_cell? w _ hw447_0)).trans hw447_0), ((HB.out.cell (World.block_lt_of_cell? w _ hw447_1)).trans hw447_1), ((HB.out.cell (World.block_lt_of_cell? w _ hw447_2)).trans hw447_2), ((HB.out.cell (World.block_lt_of_cell? w _ hw447_3)).trans hw447_3)⟩ (fun hHeld => ?_); refine with_tabW spec_TreeOk.tab6 spec_TreeOk.bits6 (fun HT_ HW_ => ?_)
    generalize wr.drew = w16 at HB hx447_0 hx447_1 hx447_2 hx447_3 hHeld ⊢
    refine pS_ 0 ?_
    refine pS_ 1 ?_
    refine pS_ 2 ?_
    refine t4_ 3 hHeld ?_
    refine oS_ 4 (fun K hK => ?_)
    refine gS_ Tryd.func27 #[.agg #[.string ((rd_T29 l0 x3_1).f0), .int .i64 ((rd_T29 l0 x3_1).f1), .string ((rd_T29 l0 x3_1).f2), .bool ((rd_T29 l0 x3_1).f3)]] ?_
    with_reducible refine (spec_l10EntryOk.calls k1 ((rd_T29 l0 x3_1).f0) ((rd_T29 l0 x3_1).f1) ((rd_T29 l0 x3_1).f2) ((rd_T29 l0 x3_1).f3) false _ A6.out).mono ?_
    rintro e w17 ⟨rfl, hb⟩
    refine ⟨_, rfl, ?_⟩
    replace HB := Aside0.mk (below_step (bw_ HB) hb)
    (try clear hb)
    (try clear hb2)
    (try clear hk)
    (try clear hi)
    refine hK.out _ _ ⟨((HB.out.cell (World.block_lt_of_cell? w _ hw447_0)).trans hw447_0), ((HB.out.cell (World.block_lt_of_cell? w _ hw447_1)).trans hw447_1), ((HB.out.cell (World.block_lt_of_cell? w _ hw447_2)).trans hw447_2), ((HB.out.cell (World.block_lt_of_cell? w _ hw447_3)).trans hw447_3)⟩ (fun hHeld => ?_)
    clear hK K
    refine nS_ 18 ?_
    refine pS_ 5 ?_
    refine pS_ 6 ?_
    refine pU_ 7 ?_
    refine pU_ 8 ?_
    refine pU_ 9 ?_
    refine pU_ 10 ?_
    refine pU_ 11 ?_
    refine pU_ 12 ?_
    refine pU_ 13 ?_
    refine pU_ 14 ?_
    refine pU_ 15 ?_
    refine pU_ 16 ?_
    refine pU_ 17 ?_
    refine pU_ 18 ?_
    refine pU_ 19 ?_
    refine pU_ 20 ?_
    refine pU_ 21 ?_
    refine pU_ 22 ?_
    refine pS_ 23 ?_
    refine done_ (done_of HT_.out (by kernel_rfl)) ?_
    try go_wp2
    go_meet
    case rel => exact ⟨_, (true), (by first | rfl | (simp; done) | (simp [*]; done)), H', ⟨by have := HK1.out; first | omega | exact Nat.le_refl _⟩, ⟨bw_ HB⟩⟩}}
    {
    rw [if_neg c5] at H
    exact absurd H (by simp)}
   case rest =>
    clear HC4
    try clear c1
    try clear c2
    try clear p2
    try clear p4
    try clear q4
    try clear hx4
    try clear c5
    try clear c7
    try clear c8
    try clear c8b0
    try clear c10
    try clear c11
    try clear hx447_0
    try clear hx447_1
    try clear hx447_2
    try clear hx447_3
    try clear hx449_0
    try clear hx449_1
    try clear hx449_2
    try clear hx449_3
    try clear hx450_0
    try clear hx450_1
    try clear hx450_2
    try clear hx450_3
    try clear p447
    try clear p449
    try clear p450
    try clear q447
    try clear q449
    try clear q450
    obtain ⟨kq, x37_3, rfl, HA, HJ3, HB⟩ := hcut
    cases kq with
    | zero => exact absurd HA.out (by simp [spec_TreeOk.j1])
    | succ kj3 =>
     have H := HA.out
     clear HA
     simp only [spec_TreeOk.j1] at H
     by_cases c18 : x37_3 = true
     {
     subst c18
     rw [if_pos rfl] at H
     obtain rfl := Option.some.inj H
     go_wp2
     go_ret
     exact ⟨eR_, bw_ HB⟩}
     {
     replace c18 := Bool.eq_false_iff.mpr c18
     subst c18
     rw [if_neg (show ¬ (false = true) by decide)] at H
     by_cases c19 : 0 ≤ x3_1
     {
     rw [if_pos c19] at H
     have c19b0 := decide_eq_true c19
     clear c19
     by_cases c20 : x3_1 < (l0.length : Int)
     {
     rw [if_pos c20] at H
     have c20b0 := decide_eq_true c20
     clear c20
     replace H := Option.bind_eq_some_iff.mp H
     obtain ⟨t452, A210, H⟩ := H
     have A21 := Aside0.mk A210
     clear A210
     by_cases c22 : t452.toList = ([] : List UInt8)
     {
     rw [if_pos c22] at H
     have c22b0 : (t452.toList == ([] : List UInt8)) = true := beq_iff_eq.mpr c22
     have c22b1 : (t452.toList != ([] : List UInt8)) = false := bne_eq_false_iff_eq.mpr c22
     clear c22
     have H' := Aside0.mk H
     clear H
     have p451 : 0 ≤ (x3_1 : Int) := dA_
     have q451 : x3_1 < (l0.length : Int) := dA_
     obtain ⟨ad451, e451, hx451_0, hx451_1, hx451_2, hx451_3⟩ := at_T29 HR0.out x3_1 p451 q451
     cases e451
     replace hx451_0 := hX_ HB hx451_0
     replace hx451_1 := hX_ HB hx451_1
     replace hx451_2 := hX_ HB hx451_2
     replace hx451_3 := hX_ HB hx451_3
     replace p451 := eq_true p451
     replace q451 := eq_true q451
     go_wp2_with (first | ((with_reducible refine gate_callee (f := 28) rfl ?_); refine gL_ (some 43) Tryd.func28 #[.string ((rd_T29 l0 x3_1).f0)] ?_; (with_reducible refine (spec_l10Up.calls kj3 ((rd_T29 l0 x3_1).f0) t452 _ A21.out).mono ?_); rintro e w' ⟨rfl, ⟨nd, rfl⟩⟩; refine ⟨_, rfl, ?_⟩))
     go_roundg kj3
     case measure => have := HK1.out; have := HJ3.out; omega
     case rel => exact ⟨(wrap64 (x3_1 + 1)), (by first | rfl | (simp; done) | (simp [*]; done)), H', ⟨by have := HK1.out; have := HJ3.out; omega⟩, ⟨bw_ HB⟩⟩}
     {
     rw [if_neg c22] at H
     have c22b0 : (t452.toList == ([] : List UInt8)) = false := beq_eq_false_iff_ne.mpr c22
     have c22b1 : (t452.toList != ([] : List UInt8)) = true := bne_iff_ne.mpr c22
     have c23b0 := eq_true (dA_ : 0 ≤ x3_1)
     by_cases c24 : x3_1 ≤ (l0.length : Int)
     {
     rw [if_pos c24] at H
     have c24b0 := eq_true c24
     have c24b1 := decide_eq_true c24
     clear c24
     obtain ⟨y453, hy453⟩ : ∃ y_ : List (S29), y_ = (l0.take (x3_1 : Int).toNat) := ⟨_, rfl⟩
     replace H : ((spec_l10Dir.f kj3 y453 t452).bind fun t457 => (if t457 = true then (spec_TreeOk.l0 kj3 l0 (wrap64 (x3_1 + 1))) else (some false))) = some r := rH_ hy453 H
     have Ny453 := Aside0.mk hy453
     clear hy453
     replace H := Option.bind_eq_some_iff.mp H
     obtain ⟨t457, A250, H⟩ := H
     have A25 := Aside0.mk A250
     clear A250
     by_cases c26 : t457 = true
     {
     subst c26
     rw [if_pos rfl] at H
     have H' := Aside0.mk H
     clear H
     have p451 : 0 ≤ (x3_1 : Int) := dA_
     have q451 : x3_1 < (l0.length : Int) := dA_
     obtain ⟨ad451, e451, hx451_0, hx451_1, hx451_2, hx451_3⟩ := at_T29 HR0.out x3_1 p451 q451
     cases e451
     replace hx451_0 := hX_ HB hx451_0
     replace hx451_1 := hX_ HB hx451_1
     replace hx451_2 := hX_ HB hx451_2
     replace hx451_3 := hX_ HB hx451_3
     replace p451 := eq_true p451
     replace q451 := eq_true q451
     go_wp2_with (first | ((with_reducible refine gate_callee (f := 28) rfl ?_); refine gL_ (some 43) Tryd.func28 #[.string ((rd_T29 l0 x3_1).f0)] ?_; (with_reducible refine (spec_l10Up.calls kj3 ((rd_T29 l0 x3_1).f0) t452 _ A21.out).mono ?_); rintro e w' ⟨rfl, ⟨nd, rfl⟩⟩; refine ⟨_, rfl, ?_⟩; have q27 : (x3_1 : Int) ≤ ((l0.length : Int) : Int) := dA_; obtain ⟨i027, hi027, _, hsz27, _⟩ := info_parts info29; have hroom27 : l0.length ≤ c0 := HC0.out; have hC27 : Kd.C k29 _ (some ad451) l0.length l0 := HR0.out; have hcut27 := cut_to (P := Tryd.prog) 24 29 .i64 Tryd.underlying24 hi027 (some ad451) l0.length c0 x3_1 (dA_) q27 hroom27; have hr27 := Kd.C_take (m := (x3_1 : Int).toNat) hC27 (by omega); have hy27 : y453.length = (x3_1 : Int).toNat := (by rw [Ny453.out, List.length_take]; omega); rw [← Ny453.out] at hr27; rw [← hy27] at hcut27; have HR456 := Aside0.mk hr27; have HC456 := Aside0.mk (show y453.length ≤ c0 from by omega); clear hr27 hC27 hroom27 hi027 hsz27; have KY27 := Aside0.mk hy27; clear hy27; replace q27 := eq_true q27) | (go_at_call 29; (with_reducible refine (spec_l10Dir.calls kj3 _ _ y453 t452 true _ ?side1 ?side2 A25.out).mono ?_); (case side1 => repeat (first | exact (Kd.C_below HR456.out (bw_ HB)) | (with_reducible refine Kd.C_alloc ?_ _) | (with_reducible refine Kd.C_drewN ?_ _) | (with_reducible refine Kd.C_drew ?_))); (case side2 => exact HC456.out); rintro e w' ⟨rfl, ⟨nd, rfl⟩⟩))
     go_roundg kj3
     case measure => have := HK1.out; have := HJ3.out; omega
     case rel => exact ⟨(wrap64 (x3_1 + 1)), (by first | rfl | (simp; done) | (simp [*]; done)), H', ⟨by have := HK1.out; have := HJ3.out; omega⟩, ⟨bw_ HB⟩⟩}
     {
     replace c26 := Bool.eq_false_iff.mpr c26
     subst c26
     rw [if_neg (show ¬ (false = true) by decide)] at H
     obtain rfl := Option.some.inj H
     have p451 : 0 ≤ (x3_1 : Int) := dA_
     have q451 : x3_1 < (l0.length : Int) := dA_
     obtain ⟨ad451, e451, hx451_0, hx451_1, hx451_2, hx451_3⟩ := at_T29 HR0.out x3_1 p451 q451
     cases e451
     replace hx451_0 := hX_ HB hx451_0
     replace hx451_1 := hX_ HB hx451_1
     replace hx451_2 := hX_ HB hx451_2
     replace hx451_3 := hX_ HB hx451_3
     replace p451 := eq_true p451
     replace q451 := eq_true q451
     go_wp2_with (first | ((with_reducible refine gate_callee (f := 28) rfl ?_); refine gL_ (some 43) Tryd.func28 #[.string ((rd_T29 l0 x3_1).f0)] ?_; (with_reducible refine (spec_l10Up.calls kj3 ((rd_T29 l0 x3_1).f0) t452 _ A21.out).mono ?_); rintro e w' ⟨rfl, ⟨nd, rfl⟩⟩; refine ⟨_, rfl, ?_⟩; have q28 : (x3_1 : Int) ≤ ((l0.length : Int) : Int) := dA_; obtain ⟨i028, hi028, _, hsz28, _⟩ := info_parts info29; have hroom28 : l0.length ≤ c0 := HC0.out; have hC28 : Kd.C k29 _ (some ad451) l0.length l0 := HR0.out; have hcut28 := cut_to (P := Tryd.prog) 24 29 .i64 Tryd.underlying24 hi028 (some ad451) l0.length c0 x3_1 (dA_) q28 hroom28; have hr28 := Kd.C_take (m := (x3_1 : Int).toNat) hC28 (by omega); have hy28 : y453.length = (x3_1 : Int).toNat := (by rw [Ny453.out, List.length_take]; omega); rw [← Ny453.out] at hr28; rw [← hy28] at hcut28; have HR456 := Aside0.mk hr28; have HC456 := Aside0.mk (show y453.length ≤ c0 from by omega); clear hr28 hC28 hroom28 hi028 hsz28; have KY28 := Aside0.mk hy28; clear hy28; replace q28 := eq_true q28) | (go_at_call 29; (with_reducible refine (spec_l10Dir.calls kj3 _ _ y453 t452 false _ ?side1 ?side2 A25.out).mono ?_); (case side1 => repeat (first | exact (Kd.C_below HR456.out (bw_ HB)) | (with_reducible refine Kd.C_alloc ?_ _) | (with_reducible refine Kd.C_drewN ?_ _) | (with_reducible refine Kd.C_drew ?_))); (case side2 => exact HC456.out); rintro e w' ⟨rfl, ⟨nd, rfl⟩⟩))
     go_ret
     exact ⟨eR_, bw_ HB⟩}}
     {
     rw [if_neg c24] at H
     exact absurd H (by simp)}}}
     {
     rw [if_neg c20] at H
     exact absurd H (by simp)}}
     {
     rw [if_neg c19] at H
     exact absurd H (by simp)}}}
   {
   rw [if_neg c3] at H
   have c3b0 := decide_eq_false c3
   clear c3
   obtain rfl := Option.some.inj H
   go_wp2
   go_ret
   exact ⟨eR_, bw_ HB⟩
}}
theorem eqA29 (d : Nat) (w : World) (x0 y0 : ByteArray) (x1 y1 : Int) (x2 y2 : ByteArray) (x3 y3 : Bool) :
 (Op.equalIn (d + 2) 29 (.agg #[.string x0, .int .i64 x1, .string x2, .bool x3]) (.agg #[.string y0, .int .i64 y1, .string y2, .bool y3])).run Tryd.prog w = .ok (x0.toList == y0.toList && (x1 == y1 && (x2.toList == y2.toList && (x3 == y3)))) w := by
 refine eqA_of Tryd.underlying29 (by kernel_rfl) ?_
 refine eqf_cons (by rfl) (by go_simp; rfl) (by go_simp; rfl) (by go_simp) ?_
 refine eqf_cons (by rfl) (by go_simp; rfl) (by go_simp; rfl) (by go_simp) ?_
 refine eqf_cons (by rfl) (by go_simp; rfl) (by go_simp; rfl) (by go_simp) ?_
 exact eqf_last (by rfl) (by go_simp; rfl) (by go_simp; rfl) (by go_simp)
end Go.Proofs.YtjnmcgeahomkeaaDoor.P
end

section
namespace Go.Proofs.YtjnmcgeahomkeaaDoor.P
open Go.RowKit Go.Proofs.YtjnmcgeahomkeaaDoorW.PrintWords Go.Proofs.YtjnmcgeahomkeaaDoorW.PrintLast Go.Proofs.YtjnmcgeahomkeaaDoorW.PrintMore Go.Proofs.YtjnmcgeahomkeaaDoorM
attribute [local go_sem] max2_int min2_int max_two min_two max_three min_three max_four min_four
set_option linter.unusedVariables false
set_option linter.unusedSimpArgs false
attribute [local go_sem high] eqA29
set_option maxHeartbeats 8000000
set_option maxRecDepth 100000
def laws_sameTree.l0 : Nat → List (S29) → List (S29) → Int → Option (Bool)
 | 0, _, _, _ => none
 | k + 1, x0, x1, x5 => if x5 < (x0.length : Int) then (if 0 ≤ x5 then (if x5 < (x1.length : Int) then (if (!((((rd_T29 x0 x5).f0).toList) == (((rd_T29 x1 x5).f0).toList)) || (!(((rd_T29 x0 x5).f1) == ((rd_T29 x1 x5).f1)) || (!((((rd_T29 x0 x5).f2).toList) == (((rd_T29 x1 x5).f2).toList)) || (!(((rd_T29 x0 x5).f3) == ((rd_T29 x1 x5).f3)))))) = true then (some false) else (laws_sameTree.l0 k x0 x1 (wrap64 (x5 + 1)))) else (none)) else (none)) else (some true)
def laws_sameTree.f (k : Nat) (l0 : List (S29)) (l1 : List (S29)) : Option (Bool) := if (l0.length : Int) = (l1.length : Int) then (laws_sameTree.l0 k l0 l1 0) else (some false)
theorem laws_sameTree.calls (k : Nat) (A0 : Option Addr) (c0 : Nat) (l0 : List (S29)) (A1 : Option Addr) (c1 : Nat) (l1 : List (S29)) (r : Bool) (w : World) (hr0 : Kd.C k29 w A0 l0.length l0) (hc0 : l0.length ≤ c0) (hr1 : Kd.C k29 w A1 l1.length l1) (hc1 : l1.length ≤ c1) (h : laws_sameTree.f k l0 l1 = some r) :
 Calls Tryd.prog 9 #[.slice A0 l0.length c0, .slice A1 l1.length c1] w fun e w' => e = .returned (.bool r) ∧ Drawn0 w w' := by
 have hu29 := Tryd.underlying29
 have HR0 := Aside0.mk hr0
 have HC0 := Aside0.mk hc0
 clear hr0 hc0
 have HR1 := Aside0.mk hr1
 have HC1 := Aside0.mk hc1
 clear hr1 hc1
 have H : (if (l0.length : Int) = (l1.length : Int) then (laws_sameTree.l0 k l0 l1 0) else (some false)) = some r := h
 clear h
 by_cases c3 : (l0.length : Int) = (l1.length : Int)
 {
 rw [if_pos c3] at H
 have c3b0 : ((l0.length : Int) == (l1.length : Int)) = true := beq_iff_eq.mpr c3
 have c3b1 : ((l0.length : Int) != (l1.length : Int)) = false := bne_eq_false_iff_eq.mpr c3
 have c3b2 : (l0.length == l1.length) = true := by first | simpa using c3 | (simp at c3 ⊢; omega)
 clear c3
 have H' := Aside0.mk H
 clear H
 go_enter Tryd.func9, Tryd.ntmps9
 go_wp2
 repeat (go_quiet (fail); try go_wp2)
 go_loopg [5] k (fun kq v5 w' => ∃ (x5_1 : Int), v5 = .int .i64 x5_1 ∧ Aside0 (laws_sameTree.l0 kq l0 l1 x5_1 = some r) ∧ Aside0 (kq ≤ k) ∧ Drawn0 w w')
 case atStart => exact ⟨(0), (by first | rfl | (simp; done) | (simp [*]; done)), H', ⟨Nat.le_refl _⟩, dR_⟩
 case round =>
  clear H'
  try clear c1
  try clear p2
  try clear c3
  try clear c3b0
  try clear c3b1
  try clear c3b2
  obtain ⟨x5_1, rfl, HA, HK1, ⟨m1, rfl⟩⟩ := hrel
  cases gk with
  | zero => exact absurd HA.out (by simp [laws_sameTree.l0])
  | succ k1 =>
   have H := HA.out
   clear HA
   simp only [laws_sameTree.l0] at H
   by_cases c4 : x5_1 < (l0.length : Int)
   {
   rw [if_pos c4] at H
   have c4b0 := decide_eq_true c4
   clear c4
   by_cases c5 : 0 ≤ x5_1
   {
   rw [if_pos c5] at H
   have c5b0 := decide_eq_true c5
   clear c5
   by_cases c6 : x5_1 < (l1.length : Int)
   {
   rw [if_pos c6] at H
   have c6b0 := decide_eq_true c6
   clear c6
   by_cases c7 : (!((((rd_T29 l0 x5_1).f0).toList) == (((rd_T29 l1 x5_1).f0).toList)) || (!(((rd_T29 l0 x5_1).f1) == ((rd_T29 l1 x5_1).f1)) || (!((((rd_T29 l0 x5_1).f2).toList) == (((rd_T29 l1 x5_1).f2).toList)) || (!(((rd_T29 l0 x5_1).f3) == ((rd_T29 l1 x5_1).f3)))))) = true
   {
   rw [if_pos c7] at H
   have c7b0 : (!((((rd_T29 l0 x5_1).f0).toList) == (((rd_T29 l1 x5_1).f0).toList)) || (!(((rd_T29 l0 x5_1).f1) == ((rd_T29 l1 x5_1).f1)) || (!((((rd_T29 l0 x5_1).f2).toList) == (((rd_T29 l1 x5_1).f2).toList)) || (!(((rd_T29 l0 x5_1).f3) == ((rd_T29 l1 x5_1).f3)))))) = true := c7
   clear c7
   obtain rfl := Option.some.inj H
   have p458 : 0 ≤ (x5_1 : Int) := dA_
   have q458 : x5_1 < (l0.length : Int) := dA_
   obtain ⟨ad458, e458, hx458_0, hx458_1, hx458_2, hx458_3⟩ := at_T29 HR0.out x5_1 p458 q458
   cases e458
   replace p458 := eq_true p458
   replace q458 := eq_true q458
   have p459 : 0 ≤ (x5_1 : Int) := dA_
   have q459 : x5_1 < (l1.length : Int) := dA_
   obtain ⟨ad459, e459, hx459_0, hx459_1, hx459_2, hx459_3⟩ := at_T29 HR1.out x5_1 p459 q459
   cases e459
   replace p459 := eq_true p459
   replace q459 := eq_true q459
   go_wp2
   repeat (go_quiet (fail); try go_wp2)
   go_ret
   exact ⟨eS_, dR_⟩}
   {
   rw [if_neg c7] at H
   have c7b0 : (!((((rd_T29 l0 x5_1).f0).toList) == (((rd_T29 l1 x5_1).f0).toList)) || (!(((rd_T29 l0 x5_1).f1) == ((rd_T29 l1 x5_1).f1)) || (!((((rd_T29 l0 x5_1).f2).toList) == (((rd_T29 l1 x5_1).f2).toList)) || (!(((rd_T29 l0 x5_1).f3) == ((rd_T29 l1 x5_1).f3)))))) = false := by simpa using c7
   clear c7
   have H' := Aside0.mk H
   clear H
   have p458 : 0 ≤ (x5_1 : Int) := dA_
   have q458 : x5_1 < (l0.length : Int) := dA_
   obtain ⟨ad458, e458, hx458_0, hx458_1, hx458_2, hx458_3⟩ := at_T29 HR0.out x5_1 p458 q458
   cases e458
   replace p458 := eq_true p458
   replace q458 := eq_true q458
   have p459 : 0 ≤ (x5_1 : Int) := dA_
   have q459 : x5_1 < (l1.length : Int) := dA_
   obtain ⟨ad459, e459, hx459_0, hx459_1, hx459_2, hx459_3⟩ := at_T29 HR1.out x5_1 p459 q459
   cases e459
   replace p459 := eq_true p459
   replace q459 := eq_true q459
   go_wp2
   repeat (go_quiet (fail); try go_wp2)
   go_roundg k1
   case measure => have := HK1.out; omega
   case rel => exact ⟨(wrap64 (x5_1 + 1)), (by first | rfl | (simp; done) | (simp [*]; done)), H', ⟨by have := HK1.out; omega⟩, dR_⟩}}
   {
   rw [if_neg c6] at H
   exact absurd H (by simp)}}
   {
   rw [if_neg c5] at H
   exact absurd H (by simp)}}
   {
   rw [if_neg c4] at H
   have c4b0 := decide_eq_false c4
   clear c4
   obtain rfl := Option.some.inj H
   go_wp2
   repeat (go_quiet (fail); try go_wp2)
   go_ret
   exact ⟨eS_, dR_⟩}}
 {
 rw [if_neg c3] at H
 have c3b0 : ((l0.length : Int) == (l1.length : Int)) = false := beq_eq_false_iff_ne.mpr c3
 have c3b1 : ((l0.length : Int) != (l1.length : Int)) = true := bne_iff_ne.mpr c3
 have c3b2 : (l0.length == l1.length) = false := by first | simpa using c3 | (simp at c3 ⊢; omega)
 obtain rfl := Option.some.inj H
 go_enter Tryd.func9, Tryd.ntmps9
 go_wp2
 repeat (go_quiet (fail); try go_wp2)
 go_ret
 exact ⟨eS_, dR_⟩}
def impl_Word32.l0 : Nat → Int → List Int → Int → Int → Option (ByteArray)
 | 0, _, _, _, _ => none
 | k + 1, x0, x3, x7, x8 => if x8 < x7 then (if 0 ≤ (wrap64 (5 * x8)) then (if 0 ≤ (Go.bits .and .u64 (shr .u64 x0 (wrap64 (5 * x8))) 31) then (if (Go.bits .and .u64 (shr .u64 x0 (wrap64 (5 * x8))) 31) < 32 then (if 0 ≤ (wrap64 (12 - x8)) then (if (wrap64 (12 - x8)) < (x3.length : Int) then (impl_Word32.l0 k x0 (x3.set ((wrap64 (12 - x8)) : Int).toNat (bt (⟨#[48, 49, 50, 51, 52, 53, 54, 55, 56, 57, 97, 98, 99, 100, 102, 103, 104, 105, 106, 107, 108, 109, 110, 112, 113, 114, 115, 118, 119, 120, 121, 122]⟩ : ByteArray) (Go.bits .and .u64 (shr .u64 x0 (wrap64 (5 * x8))) 31))) x7 (wrap64 (x8 + 1))) else (none)) else (none)) else (none)) else (none)) else (none)) else (some (strOfNums x3))
def impl_Word32.f (k : Nat) (a0 : Int) : Option (ByteArray) := if 13 ≤ 281474976710656 then ((some (List.replicate 13 0 : List Int)).bind fun y460 => (impl_Word32.l0 k a0 y460 (y460.length : Int) 0)) else (none)
theorem impl_Word32.calls (k : Nat) (a0 : Int) (r : ByteArray) (w : World) (h : impl_Word32.f k a0 = some r) :
 Calls Tryd.prog 11 #[.int .u64 a0] w fun e w' => e = .returned (.string r) ∧ Below w.heap.size w w' := by
 have HB := Aside0.mk (Below.refl w.heap.size w)
 have H : (if 13 ≤ 281474976710656 then ((some (List.replicate 13 0 : List Int)).bind fun y460 => (impl_Word32.l0 k a0 y460 (y460.length : Int) 0)) else (none)) = some r := h
 clear h
 by_cases c2 : 13 ≤ 281474976710656
 {
 rw [if_pos c2] at H
 have c2b0 := eq_true c2
 have c2b1 := decide_eq_true c2
 clear c2
 obtain ⟨y460, hy460⟩ : ∃ y_ : List Int, y_ = (List.replicate 13 0) := ⟨_, rfl⟩
 replace H : (impl_Word32.l0 k a0 y460 (y460.length : Int) 0) = some r := rH_ hy460 H
 have Ny460 := Aside0.mk hy460
 clear hy460
 have H' := Aside0.mk H
 clear H
 go_enter Tryd.func11, Tryd.ntmps11
 go_wp2_with (first | ((with_reducible refine gate_dst (N := 5) rfl ?_); refine Kd.R_make (Kd.int .u8) _ 5 rfl (N := 5) rfl 22 _ _ rfl 13 rfl rfl Tryd.underlying22 (.int .u8 0) 1 info5 rfl (by decide) (by omega) 0 (ok := fun _ => True) (okp := fun _ => True) rfl (fun _ hk => hk) trivial (by omega) (by omega) (Below.refl _ _) (Nat.le_refl _) ?_; intro v461 w3 ho4 hb hg_ hnew_; clear hg_ hnew_; (first | rw [← Ny460.out] at ho4 | (simp only [Int.reduceToNat] at ho4; rw [← Ny460.out] at ho4)); have HO462 := Aside0.mk (Kd.R_lower ho4 (below_size (bw_ HB))); replace HB := Aside0.mk (below_step (bw_ HB) hb); clear hb ho4; obtain ⟨Ao5, co5, eo5⟩ := Kd.R_slice HO462.out; subst eo5))
 go_loopg [8] k (fun kq v8 w' => ∃ (x3_1 : List Int) (x8_1 : Int), v8 = .int .i64 x8_1 ∧ Aside0 (impl_Word32.l0 kq a0 x3_1 (y460.length : Int) x8_1 = some r) ∧ Aside0 (kq ≤ k) ∧ Aside0 (Kd.R (Kd.int .u8) 5 w' w.heap.size (fun _ => True) (.slice Ao5 y460.length co5) x3_1) ∧ Aside0 (Below w.heap.size w w'))
 case atStart => exact ⟨(y460), (0), (by first | rfl | (simp; done) | (simp [*]; done)), H', ⟨Nat.le_refl _⟩, ⟨kr_ HO462⟩, ⟨bw_ HB⟩⟩
 case round =>
  clear H'
  try clear c1
  try clear c2
  try clear c2b0
  try clear c2b1
  try clear p2
  obtain ⟨x3_1, x8_1, rfl, HA, HK1, HO_3, HB⟩ := hrel
  have hl3_1 := (Kd.R_reads' HO_3.out).1
  rw [hl3_1] at HO_3
  (try simp only [hl3_1])
  cases gk with
  | zero => exact absurd HA.out (by simp [impl_Word32.l0])
  | succ k1 =>
   have H := HA.out
   clear HA
   simp only [impl_Word32.l0] at H
   by_cases c6 : x8_1 < (y460.length : Int)
   {
   rw [if_pos c6] at H
   have c6b0 := decide_eq_true c6
   (try (have c6b0' := c6b0; simp only [hl3_1] at c6b0'))
   clear c6
   obtain ⟨ji7, hji7⟩ : ∃ j_ : Int, (wrap64 (5 * x8_1)) = j_ := ⟨_, rfl⟩
   replace H : (if 0 ≤ (ji7) then (if 0 ≤ (Go.bits .and .u64 (shr .u64 a0 (ji7)) 31) then (if (Go.bits .and .u64 (shr .u64 a0 (ji7)) 31) < 32 then (if 0 ≤ (wrap64 (12 - x8_1)) then (if (wrap64 (12 - x8_1)) < (x3_1.length : Int) then (impl_Word32.l0 k1 a0 (x3_1.set ((wrap64 (12 - x8_1)) : Int).toNat (bt (⟨#[48, 49, 50, 51, 52, 53, 54, 55, 56, 57, 97, 98, 99, 100, 102, 103, 104, 105, 106, 107, 108, 109, 110, 112, 113, 114, 115, 118, 119, 120, 121, 122]⟩ : ByteArray) (Go.bits .and .u64 (shr .u64 a0 (ji7)) 31))) (y460.length : Int) (wrap64 (x8_1 + 1))) else (none)) else (none)) else (none)) else (none)) else (none)) = some r := by first | (rw [hji7] at H; exact H) | (simp only [hji7] at H ⊢; exact H)
   have hji7w : (IntKind.i64.wrap (5 * x8_1)) = ji7 := (i64_w _).trans hji7
   by_cases c8 : 0 ≤ (ji7)
   {
   rw [if_pos c8] at H
   have c8b0 := eq_true c8
   have c8b1 := decide_eq_true c8
   clear c8
   obtain ⟨ji9, hji9⟩ : ∃ j_ : Int, (shr .u64 a0 (ji7)) = j_ := ⟨_, rfl⟩
   replace H : (if 0 ≤ (Go.bits .and .u64 (ji9) 31) then (if (Go.bits .and .u64 (ji9) 31) < 32 then (if 0 ≤ (wrap64 (12 - x8_1)) then (if (wrap64 (12 - x8_1)) < (x3_1.length : Int) then (impl_Word32.l0 k1 a0 (x3_1.set ((wrap64 (12 - x8_1)) : Int).toNat (bt (⟨#[48, 49, 50, 51, 52, 53, 54, 55, 56, 57, 97, 98, 99, 100, 102, 103, 104, 105, 106, 107, 108, 109, 110, 112, 113, 114, 115, 118, 119, 120, 121, 122]⟩ : ByteArray) (Go.bits .and .u64 (ji9) 31))) (y460.length : Int) (wrap64 (x8_1 + 1))) else (none)) else (none)) else (none)) else (none)) = some r := by first | (rw [hji9] at H; exact H) | (simp only [hji9] at H ⊢; exact H)
   have hji9_ : (a0 / 2 ^ min (ji7).toNat 64) = ji9 := hji9
   have hji9z : (ji7) ≤ 64 → (a0 / 2 ^ (ji7).toNat) = ji9 := shr_small hji9
   by_cases c10 : 0 ≤ (Go.bits .and .u64 (ji9) 31)
   {
   rw [if_pos c10] at H
   have c10b0 := decide_eq_true c10
   clear c10
   by_cases c11 : (Go.bits .and .u64 (ji9) 31) < 32
   {
   rw [if_pos c11] at H
   have c11b0 := decide_eq_true c11
   clear c11
   obtain ⟨ji13, hji13⟩ : ∃ j_ : Int, (wrap64 (12 - x8_1)) = j_ := ⟨_, rfl⟩
   replace H : (if 0 ≤ (ji13) then (if (ji13) < (x3_1.length : Int) then (impl_Word32.l0 k1 a0 (x3_1.set ((ji13) : Int).toNat (bt (⟨#[48, 49, 50, 51, 52, 53, 54, 55, 56, 57, 97, 98, 99, 100, 102, 103, 104, 105, 106, 107, 108, 109, 110, 112, 113, 114, 115, 118, 119, 120, 121, 122]⟩ : ByteArray) (Go.bits .and .u64 (ji9) 31))) (y460.length : Int) (wrap64 (x8_1 + 1))) else (none)) else (none)) = some r := by first | (rw [hji13] at H; exact H) | (simp only [hji13] at H ⊢; exact H)
   have hji13w : (IntKind.i64.wrap (12 - x8_1)) = ji13 := (i64_w _).trans hji13
   by_cases c14 : 0 ≤ (ji13)
   {
   rw [if_pos c14] at H
   have c14b0 := decide_eq_true c14
   clear c14
   by_cases c15 : (ji13) < (x3_1.length : Int)
   {
   rw [if_pos c15] at H
   have c15b0 := decide_eq_true c15
   (try (have c15b0' := c15b0; simp only [hl3_1] at c15b0'))
   clear c15
   obtain ⟨y463, hy463⟩ : ∃ y_ : List Int, y_ = (x3_1.set ((ji13) : Int).toNat (bt (⟨#[48, 49, 50, 51, 52, 53, 54, 55, 56, 57, 97, 98, 99, 100, 102, 103, 104, 105, 106, 107, 108, 109, 110, 112, 113, 114, 115, 118, 119, 120, 121, 122]⟩ : ByteArray) (Go.bits .and .u64 (ji9) 31))) := ⟨_, rfl⟩
   replace H : (impl_Word32.l0 k1 a0 y463 (y460.length : Int) (wrap64 (x8_1 + 1))) = some r := rH_ hy463 H
   have Ny463 := Aside0.mk hy463
   clear hy463
   have H' := Aside0.mk H
   clear H
   have p12 : 0 ≤ ((Go.bits .and .u64 (ji9) 31) : Int) := dA_
   have q12 : (Go.bits .and .u64 (ji9) 31) < (32 : Int) := dA_
   have hx12 := bt_at (⟨#[48, 49, 50, 51, 52, 53, 54, 55, 56, 57, 97, 98, 99, 100, 102, 103, 104, 105, 106, 107, 108, 109, 110, 112, 113, 114, 115, 118, 119, 120, 121, 122]⟩ : ByteArray) (Go.bits .and .u64 (ji9) 31)
   replace p12 := eq_true p12
   replace q12 := eq_true q12
   have p16 : 0 ≤ ((ji13) : Int) := dA_
   have q16 : ((ji13) : Int) < ((x3_1.length : Int) : Int) := dA_
   obtain ⟨go16, co16, eo16, gb16, gl16, cl16, HG16⟩ := Kd.R_form HO_3.out (by omega)
   (first | cases eo16 | (injection eo16 with ea_ en_ ec_; (first | subst ea_ | (injection ea_ with ea_; subst ea_)); subst ec_; clear en_))
   have GB16 := Aside0.mk gb16
   have GG16 := Aside0.mk HG16
   clear gb16 gl16 HG16
   obtain ⟨hx16_0, hf16_0⟩ := Kd.R_celln 0 HO_3.out ((ji13) : Int) p16 q16
   replace p16 := eq_true p16
   replace q16 := eq_true q16
   have HP17 := Kd.R_putg HO_3.out ((ji13) : Int) (bt (⟨#[48, 49, 50, 51, 52, 53, 54, 55, 56, 57, 97, 98, 99, 100, 102, 103, 104, 105, 106, 107, 108, 109, 110, 112, 113, 114, 115, 118, 119, 120, 121, 122]⟩ : ByteArray) (Go.bits .and .u64 (ji9) 31))
   go_wp2_with (first | ((with_reducible refine gate_store (t := 5) (p := 20) rfl ?_); refine store_event (t := 5) (p := 20) (v := ?vo_w18) (w1 := (wr.setCell ⟨go16, ((ji13) : Int).toNat, none⟩ (.int .u8 (bt (⟨#[48, 49, 50, 51, 52, 53, 54, 55, 56, 57, 97, 98, 99, 100, 102, 103, 104, 105, 106, 107, 108, 109, 110, 112, 113, 114, 115, 118, 119, 120, 121, 122]⟩ : ByteArray) (Go.bits .and .u64 (ji9) 31))))) ?hg ?ho ?hn ?hr ?_; (case ho => rfl); (case hg => rfl); (case hn => rfl); (case hr => first | (go_simp; done) | (go_simp; rfl)); intro w18 hw; have hg : wr.grownBy w18 (some go16) := (by rw [hw]; exact HP17.2); have hp_ : Kd.R (Kd.int .u8) 5 w18 w.heap.size (fun _ => True) (.slice (some ⟨go16, 0, none⟩) x3_1.length co5) y463 := (by rw [hw, Ny463.out]; exact HP17.1); clear HP17; replace HO_3 := Aside0.mk (hp_); replace HB := Aside0.mk ((by rw [hw]; exact below_set (HB.out) GB16.out : Below w.heap.size w w18)); clear hg hw hp_))
   (try simp only [← hl3_1])
   go_roundg k1
   case measure => have := HK1.out; omega
   case rel => exact ⟨(y463), (wrap64 (x8_1 + 1)), (by first | rfl | (simp; done) | (simp [*]; done)), H', ⟨by have := HK1.out; omega⟩, ⟨by (try simp only [hl3_1]); (with_reducible repeat (first | apply Kd.R_alloc | apply Kd.R_drewN | apply Kd.R_drew)); exact HO_3.out⟩, ⟨bw_ HB⟩⟩}
   {
   rw [if_neg c15] at H
   exact absurd H (by simp)}}
   {
   rw [if_neg c14] at H
   exact absurd H (by simp)}}
   {
   rw [if_neg c11] at H
   exact absurd H (by simp)}}
   {
   rw [if_neg c10] at H
   exact absurd H (by simp)}}
   {
   rw [if_neg c8] at H
   exact absurd H (by simp)}}
   {
   rw [if_neg c6] at H
   have c6b0 := decide_eq_false c6
   (try (have c6b0' := c6b0; simp only [hl3_1] at c6b0'))
   clear c6
   obtain rfl := Option.some.inj H
   have hcv19 := own_string (P := Tryd.prog) Tryd.underlying22 Tryd.underlying5 Tryd.underlying9 (Kd.own_of_R HO_3.out)
   go_wp2
   go_ret
   exact ⟨eR_, bw_ HB⟩}}
 {
 rw [if_neg c2] at H
 exact absurd H (by simp)}
mutual
def impl_Sum.l0 : Nat → Int → List Int → Int → Int → Option (Int)
 | 0, _, _, _, _ => none
 | k + 1, x3, x6, x7, x8 => if x8 < x7 then (if 0 ≤ x8 then (if x8 < (x6.length : Int) then (impl_Sum.l0 k (IntKind.u64.wrap ((Go.bits .xor .u64 x3 (IntKind.u64.wrap (rd x6 x8))) * 1099511628211)) x6 x7 (wrap64 (x8 + 1))) else (none)) else (none)) else (impl_Sum.l1 k x3 0)
def impl_Sum.l1 : Nat → Int → Int → Option (Int)
 | 0, _, _ => none
 | k + 1, x3, x18 => if x18 < 3 then (impl_Sum.l1 k (IntKind.u64.wrap ((Go.bits .xor .u64 x3 (x3 / 536870912)) * 11400714819323198485)) (wrap64 (x18 + 1))) else (some (Go.bits .xor .u64 x3 (x3 / 4294967296)))
end
def impl_Sum.f (k : Nat) (l0 : List Int) : Option (Int) := impl_Sum.l0 k 14695981039346656037 l0 (l0.length : Int) 0
theorem impl_Sum.calls (k : Nat) (A0 : Option Addr) (c0 : Nat) (l0 : List Int) (r : Int) (w : World) (hr0 : Kd.C (Kd.int .u8) w A0 l0.length l0) (hc0 : l0.length ≤ c0) (h : impl_Sum.f k l0 = some r) :
 Calls Tryd.prog 12 #[.slice A0 l0.length c0] w fun e w' => e = .returned (.int .u64 r) ∧ Drawn0 w w' := by
 have HR0 := Aside0.mk hr0
 have HC0 := Aside0.mk hc0
 clear hr0 hc0
 have H : (impl_Sum.l0 k 14695981039346656037 l0 (l0.length : Int) 0) = some r := h
 clear h
 have H' := Aside0.mk H
 clear H
 go_enter Tryd.func12, Tryd.ntmps12
 go_wp2
 go_loopg [3, 8] k (fun kq v3 v8 w' => ∃ (x3_1 : Int) (x8_1 : Int), v3 = .int .u64 x3_1 ∧ v8 = .int .i64 x8_1 ∧ Aside0 (impl_Sum.l0 kq x3_1 l0 (l0.length : Int) x8_1 = some r) ∧ Aside0 (kq ≤ k) ∧ Drawn0 w w')
 case atStart => exact ⟨(14695981039346656037), (0), (by first | rfl | (simp; done) | (simp [*]; done)), (by first | rfl | (simp; done) | (simp [*]; done)), H', ⟨Nat.le_refl _⟩, dR_⟩
 case round =>
  clear H'
  try clear c1
  obtain ⟨x3_1, x8_1, rfl, rfl, HA, HK1, ⟨m1, rfl⟩⟩ := hrel
  cases gk with
  | zero => exact absurd HA.out (by simp [impl_Sum.l0])
  | succ k1 =>
   have H := HA.out
   clear HA
   simp only [impl_Sum.l0] at H
   by_cases c2 : x8_1 < (l0.length : Int)
   {
   rw [if_pos c2] at H
   have c2b0 := decide_eq_true c2
   clear c2
   by_cases c3 : 0 ≤ x8_1
   {
   rw [if_pos c3] at H
   have c3b0 := decide_eq_true c3
   clear c3
   by_cases c4 : x8_1 < (l0.length : Int)
   {
   rw [if_pos c4] at H
   have c4b0 := decide_eq_true c4
   clear c4
   have H' := Aside0.mk H
   clear H
   have p464 : 0 ≤ (x8_1 : Int) := dA_
   have q464 : x8_1 < (l0.length : Int) := dA_
   obtain ⟨ad464, e464, hx464_0⟩ := Kd.at_int HR0.out x8_1 p464 q464
   cases e464
   replace p464 := eq_true p464
   replace q464 := eq_true q464
   go_wp2
   go_roundg k1
   case measure => have := HK1.out; omega
   case rel => exact ⟨(IntKind.u64.wrap ((Go.bits .xor .u64 x3_1 (IntKind.u64.wrap (rd l0 x8_1))) * 1099511628211)), (wrap64 (x8_1 + 1)), (by first | rfl | (simp; done) | (simp [*]; done)), (by first | rfl | (simp; done) | (simp [*]; done)), H', ⟨by have := HK1.out; omega⟩, dR_⟩}
   {
   rw [if_neg c4] at H
   exact absurd H (by simp)}}
   {
   rw [if_neg c3] at H
   exact absurd H (by simp)}}
   {
   rw [if_neg c2] at H
   have c2b0 := decide_eq_false c2
   clear c2
   have H' := Aside0.mk H
   clear H
   go_wp2
   go_loopg [3, 18] k1 (fun kq v3 v18 w' => ∃ (x3_2 : Int) (x18_2 : Int), v3 = .int .u64 x3_2 ∧ v18 = .int .i64 x18_2 ∧ Aside0 (impl_Sum.l1 kq x3_2 x18_2 = some r) ∧ Aside0 (kq ≤ k1) ∧ Drawn0 w w')
   case atStart => exact ⟨(x3_1), (0), (by first | rfl | (simp; done) | (simp [*]; done)), (by first | rfl | (simp; done) | (simp [*]; done)), H', ⟨Nat.le_refl _⟩, dR_⟩
   case round =>
    clear H'
    try clear c1
    try clear c2
    try clear c2b0
    try clear p2
    try clear c3
    try clear c3b0
    try clear c4
    try clear c4b0
    try clear p4
    try clear q4
    try clear hx4
    try clear hx464_0
    try clear p464
    try clear q464
    obtain ⟨x3_2, x18_2, rfl, rfl, HA, HK2, ⟨m2, rfl⟩⟩ := hrel
    cases gk with
    | zero => exact absurd HA.out (by simp [impl_Sum.l1])
    | succ k2 =>
     have H := HA.out
     clear HA
     simp only [impl_Sum.l1] at H
     by_cases c5 : x18_2 < 3
     {
     rw [if_pos c5] at H
     have c5b0 := decide_eq_true c5
     clear c5
     have H' := Aside0.mk H
     clear H
     go_wp2
     go_roundg k2
     case measure => have := HK1.out; have := HK2.out; omega
     case rel => exact ⟨(IntKind.u64.wrap ((Go.bits .xor .u64 x3_2 (x3_2 / 536870912)) * 11400714819323198485)), (wrap64 (x18_2 + 1)), (by first | rfl | (simp; done) | (simp [*]; done)), (by first | rfl | (simp; done) | (simp [*]; done)), H', ⟨by have := HK1.out; have := HK2.out; omega⟩, dR_⟩}
     {
     rw [if_neg c5] at H
     have c5b0 := decide_eq_false c5
     clear c5
     obtain rfl := Option.some.inj H
     go_wp2
     go_ret
     exact ⟨eS_, dR_⟩
}}
end Go.Proofs.YtjnmcgeahomkeaaDoor.P
end

section
namespace Go.Proofs.YtjnmcgeahomkeaaDoor.P
open Go.RowKit Go.Proofs.YtjnmcgeahomkeaaDoorW.PrintWords Go.Proofs.YtjnmcgeahomkeaaDoorW.PrintLast Go.Proofs.YtjnmcgeahomkeaaDoorW.PrintMore Go.Proofs.YtjnmcgeahomkeaaDoorM
attribute [local go_sem] max2_int min2_int max_two min_two max_three min_three max_four min_four
set_option linter.unusedVariables false
set_option linter.unusedSimpArgs false
set_option maxHeartbeats 8000000
set_option maxRecDepth 100000
mutual
def impl_NameOk.j0 : Nat → ByteArray → Bool → Option (Bool)
 | 0, _, _ => none
 | k + 1, x0, x17 => if x17 = true then (some false) else (impl_NameOk.l0 k x0 (x0.size : Int) 0)
def impl_NameOk.l0 : Nat → ByteArray → Int → Int → Option (Bool)
 | 0, _, _, _ => none
 | k + 1, x0, x19, x20 => if x20 < x19 then (if 0 ≤ x20 then (if x20 < (x0.size : Int) then ((impl_letter.f (bt x0 x20)).bind fun t101 => (if t101 = true then (impl_NameOk.l0 k x0 x19 (wrap64 (x20 + 1))) else ((impl_digit.f (bt x0 x20)).bind fun t102 => (if t102 = true then (impl_NameOk.l0 k x0 x19 (wrap64 (x20 + 1))) else ((strings_ContainsRune.f (⟨#[45, 95, 46, 43]⟩ : ByteArray) (wrap32 (bt x0 x20))).bind fun t103 => (if t103 = true then (impl_NameOk.l0 k x0 x19 (wrap64 (x20 + 1))) else (some false))))))) else (none)) else (none)) else (some true)
end
def impl_NameOk.f (k : Nat) (a0 : ByteArray) : Option (Bool) := if (a0.size : Int) < 1 then (impl_NameOk.j0 k a0 true) else (if (a0.size : Int) > 60 then (impl_NameOk.j0 k a0 true) else (if 0 < (a0.size : Int) then (impl_NameOk.j0 k a0 ((bt a0 0) == 46)) else (none)))
theorem impl_NameOk.calls (k : Nat) (a0 : ByteArray) (r : Bool) (w : World) (h : impl_NameOk.f k a0 = some r) :
 Calls Tryd.prog 62 #[.string a0] w fun e w' => e = .returned (.bool r) ∧ Drawn0 w w' := by
 have H : (if (a0.size : Int) < 1 then (impl_NameOk.j0 k a0 true) else (if (a0.size : Int) > 60 then (impl_NameOk.j0 k a0 true) else (if 0 < (a0.size : Int) then (impl_NameOk.j0 k a0 ((bt a0 0) == 46)) else (none)))) = some r := h
 clear h
 have HC2 := Aside0.mk H
 clear H
 go_enter Tryd.func62, Tryd.ntmps62
 go_upto_region 1 with (fail)
 go_cut [17] (fun v17 wc => ∃ (kq : Nat) (x17_1 : Bool), v17 = .bool x17_1 ∧ Aside0 (impl_NameOk.j0 kq a0 x17_1 = some r) ∧ Aside0 (kq ≤ k) ∧ Drawn0 w wc)
 case first =>
  have H := HC2.out
  clear HC2
  by_cases c3 : (a0.size : Int) < 1
  {
  rw [if_pos c3] at H
  have c3b0 := decide_eq_true c3
  have c3b1 : decide (a0.size < 1) = true := decide_eq_true (by omega)
  clear c3
  (first | rw [c3b0] | (simp only [i64_w, i32_w]; rw [c3b0]) | skip)
  have H' := Aside0.mk H
  clear H
  go_wp2
  go_meet
  case rel => exact ⟨_, (true), (by first | rfl | (simp; done) | (simp [*]; done)), H', ⟨by first | omega | exact Nat.le_refl _⟩, dR_⟩}
  {
  rw [if_neg c3] at H
  have c3b0 := decide_eq_false c3
  have c3b1 : decide (a0.size < 1) = false := decide_eq_false (by omega)
  clear c3
  (first | rw [c3b0] | (simp only [i64_w, i32_w]; rw [c3b0]) | skip)
  by_cases c4 : (a0.size : Int) > 60
  {
  rw [if_pos c4] at H
  have c4b0 : decide (60 < (a0.size : Int)) = true := decide_eq_true c4
  have c4b1 : decide (60 < a0.size) = true := decide_eq_true (by omega)
  clear c4
  have H' := Aside0.mk H
  clear H
  go_wp2
  go_meet
  case rel => exact ⟨_, (true), (by first | rfl | (simp; done) | (simp [*]; done)), H', ⟨by first | omega | exact Nat.le_refl _⟩, dR_⟩}
  {
  rw [if_neg c4] at H
  have c4b0 : decide (60 < (a0.size : Int)) = false := decide_eq_false c4
  have c4b1 : decide (60 < a0.size) = false := decide_eq_false (by omega)
  clear c4
  by_cases c5 : 0 < (a0.size : Int)
  {
  rw [if_pos c5] at H
  have c5b0 := decide_eq_true c5
  have c5b1 : decide (0 < a0.size) = true := decide_eq_true (by omega)
  clear c5
  have H' := Aside0.mk H
  clear H
  have p6 : 0 ≤ (0 : Int) := (by omega)
  have q6 : 0 < a0.size := (by have : (0 : Int) < (a0.size : Int) := dA_; omega)
  have hx6 : ∀ h : 0 < a0.size, ((a0[0]'h).toNat : Int) = bt a0 0 := bt_at a0 0
  clear p6
  have qi6 : (0 < (a0.size : Int)) = True := eq_true (dA_)
  replace q6 := eq_true q6
  go_wp2
  go_meet
  case rel => exact ⟨_, (((bt a0 0) == 46)), (by first | rfl | (simp; done) | (simp [*]; done)), H', ⟨by first | omega | exact Nat.le_refl _⟩, dR_⟩}
  {
  rw [if_neg c5] at H
  exact absurd H (by simp)}}}
 case rest =>
  clear HC2
  try clear p2
  try clear c3
  try clear c3b0
  try clear c3b1
  try clear c4
  try clear c4b0
  try clear c4b1
  try clear c5
  try clear c5b0
  try clear c5b1
  try clear c6
  try clear p6
  try clear q6
  try clear hx6
  try clear qi6
  try clear p6
  try clear q6
  obtain ⟨kq, x17_1, rfl, HA, HJ1, ⟨mc1, rfl⟩⟩ := hcut
  cases kq with
  | zero => exact absurd HA.out (by simp [impl_NameOk.j0])
  | succ kj1 =>
   have H := HA.out
   clear HA
   simp only [impl_NameOk.j0] at H
   by_cases c7 : x17_1 = true
   {
   subst c7
   rw [if_pos rfl] at H
   obtain rfl := Option.some.inj H
   go_wp2
   go_ret
   exact ⟨eS_, dR_⟩}
   {
   replace c7 := Bool.eq_false_iff.mpr c7
   subst c7
   rw [if_neg (show ¬ (false = true) by decide)] at H
   have H' := Aside0.mk H
   clear H
   go_wp2
   go_loopg [20] kj1 (fun kq v20 w' => ∃ (x20_2 : Int), v20 = .int .i64 x20_2 ∧ Aside0 (impl_NameOk.l0 kq a0 (a0.size : Int) x20_2 = some r) ∧ Aside0 (kq ≤ kj1) ∧ Drawn0 w w')
   case atStart => exact ⟨(0), (by first | rfl | (simp; done) | (simp [*]; done)), H', ⟨Nat.le_refl _⟩, dR_⟩
   case round =>
    clear H'
    try clear c1
    try clear p2
    try clear c3
    try clear c3b0
    try clear c3b1
    try clear c4
    try clear c4b0
    try clear c4b1
    try clear c5
    try clear c5b0
    try clear c5b1
    try clear c6
    try clear p6
    try clear q6
    try clear hx6
    try clear qi6
    try clear c7
    try clear p2
    try clear p6
    try clear q6
    obtain ⟨x20_2, rfl, HA, HK2, ⟨m2, rfl⟩⟩ := hrel
    cases gk with
    | zero => exact absurd HA.out (by simp [impl_NameOk.l0])
    | succ k2 =>
     have H := HA.out
     clear HA
     simp only [impl_NameOk.l0] at H
     by_cases c8 : x20_2 < (a0.size : Int)
     {
     rw [if_pos c8] at H
     have c8b0 := decide_eq_true c8
     clear c8
     by_cases c9 : 0 ≤ x20_2
     {
     rw [if_pos c9] at H
     have c9b0 := decide_eq_true c9
     clear c9
     by_cases c10 : x20_2 < (a0.size : Int)
     {
     rw [if_pos c10] at H
     have c10b0 := decide_eq_true c10
     clear c10
     replace H := Option.bind_eq_some_iff.mp H
     obtain ⟨t101, A120, H⟩ := H
     have A12 := Aside0.mk A120
     clear A120
     by_cases c13 : t101 = true
     {
     subst c13
     rw [if_pos rfl] at H
     have H' := Aside0.mk H
     clear H
     have p11 : 0 ≤ (x20_2 : Int) := dA_
     have q11 : x20_2 < (a0.size : Int) := dA_
     have hx11 := bt_at a0 x20_2
     replace p11 := eq_true p11
     replace q11 := eq_true q11
     go_wp2_with (first | ((with_reducible refine gate_callee (f := 70) rfl ?_); refine gL_ (some 27) Tryd.func70 #[.int .u8 (bt a0 x20_2)] ?_; (with_reducible refine (impl_letter.calls (bt a0 x20_2) true _ A12.out).mono ?_); rintro e w' ⟨rfl, ⟨nd, rfl⟩⟩; refine ⟨_, rfl, ?_⟩))
     go_roundg k2
     case measure => have := HJ1.out; have := HK2.out; omega
     case rel => exact ⟨(wrap64 (x20_2 + 1)), (by first | rfl | (simp; done) | (simp [*]; done)), H', ⟨by have := HJ1.out; have := HK2.out; omega⟩, dR_⟩}
     {
     replace c13 := Bool.eq_false_iff.mpr c13
     subst c13
     rw [if_neg (show ¬ (false = true) by decide)] at H
     replace H := Option.bind_eq_some_iff.mp H
     obtain ⟨t102, A140, H⟩ := H
     have A14 := Aside0.mk A140
     clear A140
     by_cases c15 : t102 = true
     {
     subst c15
     rw [if_pos rfl] at H
     have H' := Aside0.mk H
     clear H
     have p11 : 0 ≤ (x20_2 : Int) := dA_
     have q11 : x20_2 < (a0.size : Int) := dA_
     have hx11 := bt_at a0 x20_2
     replace p11 := eq_true p11
     replace q11 := eq_true q11
     go_wp2_with (first | ((with_reducible refine gate_callee (f := 70) rfl ?_); refine gL_ (some 27) Tryd.func70 #[.int .u8 (bt a0 x20_2)] ?_; (with_reducible refine (impl_letter.calls (bt a0 x20_2) false _ A12.out).mono ?_); rintro e w' ⟨rfl, ⟨nd, rfl⟩⟩; refine ⟨_, rfl, ?_⟩) | (go_at_call 71; (with_reducible refine (impl_digit.calls (bt a0 x20_2) true _ A14.out).mono ?_); rintro e w' ⟨rfl, ⟨nd, rfl⟩⟩))
     go_roundg k2
     case measure => have := HJ1.out; have := HK2.out; omega
     case rel => exact ⟨(wrap64 (x20_2 + 1)), (by first | rfl | (simp; done) | (simp [*]; done)), H', ⟨by have := HJ1.out; have := HK2.out; omega⟩, dR_⟩}
     {
     replace c15 := Bool.eq_false_iff.mpr c15
     subst c15
     rw [if_neg (show ¬ (false = true) by decide)] at H
     replace H := Option.bind_eq_some_iff.mp H
     obtain ⟨t103, A160, H⟩ := H
     have A16 := Aside0.mk A160
     clear A160
     by_cases c17 : t103 = true
     {
     subst c17
     rw [if_pos rfl] at H
     have H' := Aside0.mk H
     clear H
     have p11 : 0 ≤ (x20_2 : Int) := dA_
     have q11 : x20_2 < (a0.size : Int) := dA_
     have hx11 := bt_at a0 x20_2
     replace p11 := eq_true p11
     replace q11 := eq_true q11
     go_wp2_with (first | ((with_reducible refine gate_callee (f := 70) rfl ?_); refine gL_ (some 27) Tryd.func70 #[.int .u8 (bt a0 x20_2)] ?_; (with_reducible refine (impl_letter.calls (bt a0 x20_2) false _ A12.out).mono ?_); rintro e w' ⟨rfl, ⟨nd, rfl⟩⟩; refine ⟨_, rfl, ?_⟩) | (go_at_call 71; (with_reducible refine (impl_digit.calls (bt a0 x20_2) false _ A14.out).mono ?_); rintro e w' ⟨rfl, ⟨nd, rfl⟩⟩) | (go_at_call 72; (with_reducible refine (strings_ContainsRune.calls (⟨#[45, 95, 46, 43]⟩ : ByteArray) (wrap32 (bt a0 x20_2)) true _ A16.out).mono ?_); rintro e w' ⟨rfl, ⟨nd, rfl⟩⟩))
     go_roundg k2
     case measure => have := HJ1.out; have := HK2.out; omega
     case rel => exact ⟨(wrap64 (x20_2 + 1)), (by first | rfl | (simp; done) | (simp [*]; done)), H', ⟨by have := HJ1.out; have := HK2.out; omega⟩, dR_⟩}
     {
     replace c17 := Bool.eq_false_iff.mpr c17
     subst c17
     rw [if_neg (show ¬ (false = true) by decide)] at H
     obtain rfl := Option.some.inj H
     have p11 : 0 ≤ (x20_2 : Int) := dA_
     have q11 : x20_2 < (a0.size : Int) := dA_
     have hx11 := bt_at a0 x20_2
     replace p11 := eq_true p11
     replace q11 := eq_true q11
     go_wp2_with (first | ((with_reducible refine gate_callee (f := 70) rfl ?_); refine gL_ (some 27) Tryd.func70 #[.int .u8 (bt a0 x20_2)] ?_; (with_reducible refine (impl_letter.calls (bt a0 x20_2) false _ A12.out).mono ?_); rintro e w' ⟨rfl, ⟨nd, rfl⟩⟩; refine ⟨_, rfl, ?_⟩) | (go_at_call 71; (with_reducible refine (impl_digit.calls (bt a0 x20_2) false _ A14.out).mono ?_); rintro e w' ⟨rfl, ⟨nd, rfl⟩⟩) | (go_at_call 72; (with_reducible refine (strings_ContainsRune.calls (⟨#[45, 95, 46, 43]⟩ : ByteArray) (wrap32 (bt a0 x20_2)) false _ A16.out).mono ?_); rintro e w' ⟨rfl, ⟨nd, rfl⟩⟩))
     go_ret
     exact ⟨eS_, dR_⟩}}}}
     {
     rw [if_neg c10] at H
     exact absurd H (by simp)}}
     {
     rw [if_neg c9] at H
     exact absurd H (by simp)}}
     {
     rw [if_neg c8] at H
     have c8b0 := decide_eq_false c8
     clear c8
     obtain rfl := Option.some.inj H
     go_wp2
     go_ret
     exact ⟨eS_, dR_⟩}}
def impl_pathOk.l0 : Nat → List ByteArray → Int → Int → Option (Bool)
 | 0, _, _, _ => none
 | k + 1, x11, x12, x13 => if x13 < x12 then (if 0 ≤ x13 then (if x13 < (x11.length : Int) then ((impl_NameOk.f k (rdOf ByteArray.empty x11 x13)).bind fun t108 => (if t108 = true then (impl_pathOk.l0 k x11 x12 (wrap64 (x13 + 1))) else (some false))) else (none)) else (none)) else (some true)
def impl_pathOk.f (k : Nat) (a0 : ByteArray) : Option (Bool) := (strings_Split.f a0 (⟨#[47]⟩ : ByteArray)).bind fun t104 => (if (t104.length : Int) > 8 then (some false) else (impl_pathOk.l0 k t104 (t104.length : Int) 0))
theorem impl_pathOk.calls (k : Nat) (a0 : ByteArray) (r : Bool) (w : World) (hE : EnvW w) (h : impl_pathOk.f k a0 = some r) :
 Calls Tryd.prog 45 #[.string a0] w fun e w' => e = .returned (.bool r) ∧ Below w.heap.size w w' := by
 have HE := Aside0.mk hE
 clear hE
 have HB := Aside0.mk (Below.refl w.heap.size w)
 have H : ((strings_Split.f a0 (⟨#[47]⟩ : ByteArray)).bind fun t104 => (if (t104.length : Int) > 8 then (some false) else (impl_pathOk.l0 k t104 (t104.length : Int) 0))) = some r := h
 clear h
 replace H := Option.bind_eq_some_iff.mp H
 obtain ⟨t104, A20, H⟩ := H
 have A2 := Aside0.mk A20
 clear A20
 by_cases c3 : (t104.length : Int) > 8
 {
 rw [if_pos c3] at H
 have c3b0 : decide (8 < (t104.length : Int)) = true := decide_eq_true c3
 have c3b1 : decide (8 < t104.length) = true := decide_eq_true (by omega)
 clear c3
 obtain rfl := Option.some.inj H
 go_enter Tryd.func45, Tryd.ntmps45
 go_wp2_with (first | ((with_reducible refine gate_callee (f := 61) rfl ?_); refine gL_ (some 7) Tryd.func61 #[.string a0, .string (⟨#[47]⟩ : ByteArray)] ?_; (with_reducible refine (strings_Split.calls a0 (⟨#[47]⟩ : ByteArray) t104 _ ?side1 A2.out).mono ?_); (case side1 => refine EnvW.below HE.out ?_; exact bw_ HB); rintro e w4 ⟨v105, rfl, ho0, hb⟩; refine ⟨_, rfl, ?_⟩; have HO106 := Aside0.mk (Kd.R_lower ho0 (below_size (bw_ HB))); replace HB := Aside0.mk (below_step (bw_ HB) hb); clear hb; (try clear ho0); obtain ⟨Ao5, co5, eo5⟩ := Kd.R_slice HO106.out; subst eo5))
 go_ret
 exact ⟨eR_, bw_ HB⟩}
 {
 rw [if_neg c3] at H
 have c3b0 : decide (8 < (t104.length : Int)) = false := decide_eq_false c3
 have c3b1 : decide (8 < t104.length) = false := decide_eq_false (by omega)
 clear c3
 have H' := Aside0.mk H
 clear H
 go_enter Tryd.func45, Tryd.ntmps45
 go_wp2_with (first | ((with_reducible refine gate_callee (f := 61) rfl ?_); refine gL_ (some 7) Tryd.func61 #[.string a0, .string (⟨#[47]⟩ : ByteArray)] ?_; (with_reducible refine (strings_Split.calls a0 (⟨#[47]⟩ : ByteArray) t104 _ ?side1 A2.out).mono ?_); (case side1 => refine EnvW.below HE.out ?_; exact bw_ HB); rintro e w6 ⟨v105, rfl, ho0, hb⟩; refine ⟨_, rfl, ?_⟩; have HO106 := Aside0.mk (Kd.R_lower ho0 (below_size (bw_ HB))); replace HB := Aside0.mk (below_step (bw_ HB) hb); clear hb; (try clear ho0); obtain ⟨Ao7, co7, eo7⟩ := Kd.R_slice HO106.out; subst eo7))
 go_loopg [13] k (fun kq v13 w' => ∃ (x13_1 : Int), v13 = .int .i64 x13_1 ∧ Aside0 (impl_pathOk.l0 kq t104 (t104.length : Int) x13_1 = some r) ∧ Aside0 (kq ≤ k) ∧ Aside0 (Kd.R Kd.string 9 w' w.heap.size (fun _ => True) (.slice Ao7 t104.length co7) t104) ∧ Aside0 (Below w.heap.size w w'))
 case atStart => exact ⟨(0), (by first | rfl | (simp; done) | (simp [*]; done)), H', ⟨Nat.le_refl _⟩, ⟨kr_ HO106⟩, ⟨bw_ HB⟩⟩
 case round =>
  clear H'
  try clear p2
  try clear c3
  try clear c3b0
  try clear c3b1
  try clear c4
  try clear c6
  obtain ⟨x13_1, rfl, HA, HK1, HO_11, HB⟩ := hrel
  cases gk with
  | zero => exact absurd HA.out (by simp [impl_pathOk.l0])
  | succ k1 =>
   have H := HA.out
   clear HA
   simp only [impl_pathOk.l0] at H
   by_cases c8 : x13_1 < (t104.length : Int)
   {
   rw [if_pos c8] at H
   have c8b0 := decide_eq_true c8
   clear c8
   by_cases c9 : 0 ≤ x13_1
   {
   rw [if_pos c9] at H
   have c9b0 := decide_eq_true c9
   clear c9
   by_cases c10 : x13_1 < (t104.length : Int)
   {
   rw [if_pos c10] at H
   have c10b0 := decide_eq_true c10
   clear c10
   replace H := Option.bind_eq_some_iff.mp H
   obtain ⟨t108, A110, H⟩ := H
   have A11 := Aside0.mk A110
   clear A110
   by_cases c12 : t108 = true
   {
   subst c12
   rw [if_pos rfl] at H
   have H' := Aside0.mk H
   clear H
   have p107 : 0 ≤ (x13_1 : Int) := dA_
   have q107 : x13_1 < (t104.length : Int) := dA_
   obtain ⟨ad107, e107, hx107_0⟩ := Kd.at_string (Kd.R_reads' HO_11.out).2.2 x13_1 p107 q107
   cases e107
   replace p107 := eq_true p107
   replace q107 := eq_true q107
   go_wp2_with (first | ((with_reducible refine gate_callee (f := 62) rfl ?_); refine gL_ (some 18) Tryd.func62 #[.string (rdOf ByteArray.empty t104 x13_1)] ?_; (with_reducible refine (impl_NameOk.calls k1 (rdOf ByteArray.empty t104 x13_1) true _ A11.out).mono ?_); rintro e w' ⟨rfl, ⟨nd, rfl⟩⟩; refine ⟨_, rfl, ?_⟩))
   go_roundg k1
   case measure => have := HK1.out; omega
   case rel => exact ⟨(wrap64 (x13_1 + 1)), (by first | rfl | (simp; done) | (simp [*]; done)), H', ⟨by have := HK1.out; omega⟩, ⟨kr_ HO_11⟩, ⟨bw_ HB⟩⟩}
   {
   replace c12 := Bool.eq_false_iff.mpr c12
   subst c12
   rw [if_neg (show ¬ (false = true) by decide)] at H
   obtain rfl := Option.some.inj H
   have p107 : 0 ≤ (x13_1 : Int) := dA_
   have q107 : x13_1 < (t104.length : Int) := dA_
   obtain ⟨ad107, e107, hx107_0⟩ := Kd.at_string (Kd.R_reads' HO_11.out).2.2 x13_1 p107 q107
   cases e107
   replace p107 := eq_true p107
   replace q107 := eq_true q107
   go_wp2_with (first | ((with_reducible refine gate_callee (f := 62) rfl ?_); refine gL_ (some 18) Tryd.func62 #[.string (rdOf ByteArray.empty t104 x13_1)] ?_; (with_reducible refine (impl_NameOk.calls k1 (rdOf ByteArray.empty t104 x13_1) false _ A11.out).mono ?_); rintro e w' ⟨rfl, ⟨nd, rfl⟩⟩; refine ⟨_, rfl, ?_⟩))
   go_ret
   exact ⟨eR_, bw_ HB⟩}}
   {
   rw [if_neg c10] at H
   exact absurd H (by simp)}}
   {
   rw [if_neg c9] at H
   exact absurd H (by simp)}}
   {
   rw [if_neg c8] at H
   have c8b0 := decide_eq_false c8
   clear c8
   obtain rfl := Option.some.inj H
   go_wp2
   go_ret
   exact ⟨eR_, bw_ HB⟩}}
def strings_LastIndexByte.f (a0 : ByteArray) (a1 : Int) : Option Int := if a0.size < 4611686018427387904 then some (Lib.lastIndexByte a0 a1) else none
theorem strings_LastIndexByte.calls (a0 : ByteArray) (a1 : Int) (r : Int) (w : World) (h : strings_LastIndexByte.f a0 a1 = some r) :
 Calls Tryd.prog 63 #[.string a0, .int .u8 a1] w fun e w' => e = .returned (.int .i64 r) ∧ Drawn0 w w' := by
 unfold strings_LastIndexByte.f at h
 split at h
 {
 rename_i hs
 obtain rfl := Option.some.inj h
 exact (Tryd.strings_LastIndexByte a0 a1 hs w).mono fun e w' ⟨he, hw⟩ => ⟨he, hw ▸ Drawn0.refl _⟩}
 {
 cases h
}
def impl_upper.f (a0 : ByteArray) : Option (ByteArray × Bool) := (strings_LastIndexByte.f a0 47).bind fun t109 => (if t109 < 0 then (some ((⟨#[]⟩ : ByteArray), false)) else (if 0 ≤ t109 then (if t109 ≤ (a0.size : Int) then (some (a0.extract 0 (t109 : Int).toNat, true)) else (none)) else (none)))
theorem impl_upper.calls (a0 : ByteArray) (r1 : ByteArray) (r2 : Bool) (w : World) (h : impl_upper.f a0 = some (r1, r2)) :
 Calls Tryd.prog 46 #[.string a0] w fun e w' => e = .returned (.tuple #[.string r1, .bool r2]) ∧ Drawn0 w w' := by
 have H : ((strings_LastIndexByte.f a0 47).bind fun t109 => (if t109 < 0 then (some ((⟨#[]⟩ : ByteArray), false)) else (if 0 ≤ t109 then (if t109 ≤ (a0.size : Int) then (some (a0.extract 0 (t109 : Int).toNat, true)) else (none)) else (none)))) = some (r1, r2) := h
 clear h
 replace H := Option.bind_eq_some_iff.mp H
 obtain ⟨t109, A20, H⟩ := H
 have A2 := Aside0.mk A20
 clear A20
 by_cases c3 : t109 < 0
 {
 rw [if_pos c3] at H
 have c3b0 := decide_eq_true c3
 clear c3
 simp only [Option.some.injEq, Prod.mk.injEq] at H
 obtain ⟨rfl, rfl⟩ := H
 go_enter Tryd.func46, Tryd.ntmps46
 go_wp2_with (first | ((with_reducible refine gate_callee (f := 63) rfl ?_); refine gL_ (some 6) Tryd.func63 #[.string a0, .int .u8 47] ?_; (with_reducible refine (strings_LastIndexByte.calls a0 47 t109 _ A2.out).mono ?_); rintro e w' ⟨rfl, ⟨nd, rfl⟩⟩; refine ⟨_, rfl, ?_⟩))
 go_ret2
 exact ⟨eS_, dR_⟩}
 {
 rw [if_neg c3] at H
 have c3b0 := decide_eq_false c3
 clear c3
 by_cases c4 : 0 ≤ t109
 {
 rw [if_pos c4] at H
 have c4b0 := eq_true c4
 have c4b1 := decide_eq_true c4
 clear c4
 by_cases c5 : t109 ≤ (a0.size : Int)
 {
 rw [if_pos c5] at H
 have c5b0 := eq_true c5
 have c5b1 := decide_eq_true c5
 clear c5
 simp only [Option.some.injEq, Prod.mk.injEq] at H
 obtain ⟨rfl, rfl⟩ := H
 go_enter Tryd.func46, Tryd.ntmps46
 go_wp2_with (first | ((with_reducible refine gate_callee (f := 63) rfl ?_); refine gL_ (some 6) Tryd.func63 #[.string a0, .int .u8 47] ?_; (with_reducible refine (strings_LastIndexByte.calls a0 47 t109 _ A2.out).mono ?_); rintro e w' ⟨rfl, ⟨nd, rfl⟩⟩; refine ⟨_, rfl, ?_⟩))
 go_ret2
 exact ⟨eS_, dR_⟩}
 {
 rw [if_neg c5] at H
 exact absurd H (by simp)}}
 {
 rw [if_neg c4] at H
 exact absurd H (by simp)
}}
end Go.Proofs.YtjnmcgeahomkeaaDoor.P
end
