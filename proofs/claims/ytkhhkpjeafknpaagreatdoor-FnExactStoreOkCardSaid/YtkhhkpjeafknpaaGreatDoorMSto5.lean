/- Texts of Sto, put together by program. -/
import Derived.Test.YtkhhkpjeafknpaaGreatDoorMSto2
import Derived.Test.YtkhhkpjeafknpaaGreatDoorMSto3
import Derived.Test.YtkhhkpjeafknpaaGreatDoorMSto4

section
namespace Go.Proofs.YtkhhkpjeafknpaaGreatDoor.P
open Go.RowKit Go.Proofs.YtkhhkpjeafknpaaGreatDoorW.PrintWords Go.Proofs.YtkhhkpjeafknpaaGreatDoorW.PrintLast Go.Proofs.YtkhhkpjeafknpaaGreatDoorW.PrintMore Go.Proofs.YtkhhkpjeafknpaaGreatDoorM
attribute [local go_sem] max2_int min2_int max_two min_two max_three min_three max_four min_four
set_option linter.unusedVariables false
set_option linter.unusedSimpArgs false
def spec_Word32.l0 : Nat → Int → List Int → Int → Option (ByteArray)
 | 0, _, _, _ => none
 | k + 1, x0, x3, x4 => if x4 ≥ 0 then (if 0 ≤ (IntKind.u64.wrap (wrap64 (5 * x4))) then (if 0 ≤ (Go.bits .and .u64 (shr .u64 x0 (IntKind.u64.wrap (wrap64 (5 * x4)))) 31) then (if (Go.bits .and .u64 (shr .u64 x0 (IntKind.u64.wrap (wrap64 (5 * x4)))) 31) < 32 then (if x3.length < 140737488355328 then (spec_Word32.l0 k x0 (x3 ++ [bt (⟨#[48, 49, 50, 51, 52, 53, 54, 55, 56, 57, 97, 98, 99, 100, 102, 103, 104, 105, 106, 107, 108, 109, 110, 112, 113, 114, 115, 118, 119, 120, 121, 122]⟩ : ByteArray) (Go.bits .and .u64 (shr .u64 x0 (IntKind.u64.wrap (wrap64 (5 * x4)))) 31)]) (wrap64 (x4 - 1))) else (none)) else (none)) else (none)) else (none)) else (some (strOfNums x3))
def spec_Word32.f (k : Nat) (a0 : Int) : Option (ByteArray) := spec_Word32.l0 k a0 (([] : List Int)) 12
set_option maxHeartbeats 8000000 in
set_option maxRecDepth 100000 in
theorem spec_Word32.calls (k : Nat) (a0 : Int) (r : ByteArray) (w : World) (h : spec_Word32.f k a0 = some r) :
 Calls Tryz.prog 81 #[.int .u64 a0] w fun e w' => e = .returned (.string r) ∧ Below w.heap.size w w' := by
 have HB := Aside0.mk (Below.refl w.heap.size w)
 have H : (spec_Word32.l0 k a0 (([] : List Int)) 12) = some r := h
 clear h
 obtain ⟨y150, hy150⟩ : ∃ y_ : List Int, y_ = (([] : List Int)) := ⟨_, rfl⟩
 replace H : (spec_Word32.l0 k a0 y150 12) = some r := by first | (rw [hy150]; with_reducible exact H) | (have H2_ := (Option.bind_some _ _).symm.trans H; rw [hy150]; with_reducible exact H2_) | (have H2_ := (Option.bind_some _ _).symm.trans H; with_reducible exact H2_) | with_reducible exact H | (rw [hy150]; exact H) | exact H
 have Ny150 := Aside0.mk hy150
 clear hy150
 have H' := Aside0.mk H
 clear H
 go_enter Tryz.func81, Tryz.ntmps81
 go_wp2_with (first | ((with_reducible refine gate_dst (N := 5) rfl ?_); refine Kd.R_lit (Kd.int .u8) _ 5 ?hg (N := 5) ?hd (xs := ([] : List Int)) (inner := []) (ok := fun _ => True) (okp := fun _ => True) ?hr ?hp (fun _ hk => hk) trivial (Below.refl _ _) (Nat.le_refl _) (by simp) ?_; (case hd => rfl); (case hg => rfl); (case hr => first | (go_simp; done) | (go_simp; rfl)); (case hp => exact (Reps.none _ _)); intro v151 w2 ho3 hb hg_ hnew_; clear hg_ hnew_; (first | rw [← Ny150.out] at ho3 | (simp only [Int.reduceToNat] at ho3; rw [← Ny150.out] at ho3)); have n0_ := Aside0.mk (Kd.R_lower ho3 (below_size (bw_ HB))); have n1_ := Aside0.mk (below_step (bw_ HB) hb); clear HB; have HO152 := n0_; have HB := n1_; clear n0_ n1_; clear hb ho3))
 go_loopg [3, 4] k (fun kq v3 v4 w' => ∃ (x3_1 : List Int) (x4_1 : Int), v4 = .int .i64 x4_1 ∧ Aside0 (spec_Word32.l0 kq a0 x3_1 x4_1 = some r) ∧ Aside0 (kq ≤ k) ∧ Aside0 (Kd.R (Kd.int .u8) 5 w' w.heap.size (fun _ => True) v3 x3_1) ∧ Aside0 (Below w.heap.size w w'))
 case atStart => exact ⟨(y150), (12), (by first | rfl | (simp; done) | (simp [*]; done)), H', ⟨Nat.le_refl _⟩, ⟨by (with_reducible repeat (first | apply Kd.R_alloc | apply Kd.R_drewN | apply Kd.R_drew)); exact HO152.out⟩, ⟨bw_ HB⟩⟩
 case round =>
  clear H'
  try clear p2
  obtain ⟨x3_1, x4_1, rfl, HA, HK1, HO_3, HB⟩ := hrel
  cases gk with
  | zero => exact absurd HA.out (by simp [spec_Word32.l0])
  | succ k1 =>
   have H := HA.out
   clear HA
   simp only [spec_Word32.l0] at H
   by_cases c4 : x4_1 ≥ 0
   {
   rw [if_pos c4] at H
   have c4b0 : decide (0 ≤ x4_1) = true := decide_eq_true c4
   clear c4
   obtain ⟨ji5, hji5⟩ : ∃ j_ : Int, (IntKind.u64.wrap (wrap64 (5 * x4_1))) = j_ := ⟨_, rfl⟩
   replace H : (if 0 ≤ (ji5) then (if 0 ≤ (Go.bits .and .u64 (shr .u64 a0 (ji5)) 31) then (if (Go.bits .and .u64 (shr .u64 a0 (ji5)) 31) < 32 then (if x3_1.length < 140737488355328 then (spec_Word32.l0 k1 a0 (x3_1 ++ [bt (⟨#[48, 49, 50, 51, 52, 53, 54, 55, 56, 57, 97, 98, 99, 100, 102, 103, 104, 105, 106, 107, 108, 109, 110, 112, 113, 114, 115, 118, 119, 120, 121, 122]⟩ : ByteArray) (Go.bits .and .u64 (shr .u64 a0 (ji5)) 31)]) (wrap64 (x4_1 - 1))) else (none)) else (none)) else (none)) else (none)) = some r := by first | (rw [hji5] at H; exact H) | (simp only [hji5] at H ⊢; exact H)
   by_cases c6 : 0 ≤ (ji5)
   {
   rw [if_pos c6] at H
   have c6b0 := eq_true c6
   have c6b1 : decide (0 ≤ (ji5)) = true := decide_eq_true c6
   clear c6
   obtain ⟨ji7, hji7⟩ : ∃ j_ : Int, (shr .u64 a0 (ji5)) = j_ := ⟨_, rfl⟩
   replace H : (if 0 ≤ (Go.bits .and .u64 (ji7) 31) then (if (Go.bits .and .u64 (ji7) 31) < 32 then (if x3_1.length < 140737488355328 then (spec_Word32.l0 k1 a0 (x3_1 ++ [bt (⟨#[48, 49, 50, 51, 52, 53, 54, 55, 56, 57, 97, 98, 99, 100, 102, 103, 104, 105, 106, 107, 108, 109, 110, 112, 113, 114, 115, 118, 119, 120, 121, 122]⟩ : ByteArray) (Go.bits .and .u64 (ji7) 31)]) (wrap64 (x4_1 - 1))) else (none)) else (none)) else (none)) = some r := by first | (rw [hji7] at H; exact H) | (simp only [hji7] at H ⊢; exact H)
   have hji7_ : (a0 / 2 ^ min (ji5).toNat 64) = ji7 := hji7
   have hji7z : (ji5) ≤ 64 → (a0 / 2 ^ (ji5).toNat) = ji7 := shr_small hji7
   by_cases c8 : 0 ≤ (Go.bits .and .u64 (ji7) 31)
   {
   rw [if_pos c8] at H
   have c8b0 : decide (0 ≤ (Go.bits .and .u64 (ji7) 31)) = true := decide_eq_true c8
   clear c8
   by_cases c9 : (Go.bits .and .u64 (ji7) 31) < 32
   {
   rw [if_pos c9] at H
   have c9b0 : decide ((Go.bits .and .u64 (ji7) 31) < 32) = true := decide_eq_true c9
   clear c9
   by_cases c11 : x3_1.length < 140737488355328
   {
   rw [if_pos c11] at H
   have LMc11 := Aside0.mk c11
   clear c11
   obtain ⟨y153, hy153⟩ : ∃ y_ : List Int, y_ = (x3_1 ++ [bt (⟨#[48, 49, 50, 51, 52, 53, 54, 55, 56, 57, 97, 98, 99, 100, 102, 103, 104, 105, 106, 107, 108, 109, 110, 112, 113, 114, 115, 118, 119, 120, 121, 122]⟩ : ByteArray) (Go.bits .and .u64 (ji7) 31)]) := ⟨_, rfl⟩
   replace H : (spec_Word32.l0 k1 a0 y153 (wrap64 (x4_1 - 1))) = some r := by first | (rw [hy153]; with_reducible exact H) | (have H2_ := (Option.bind_some _ _).symm.trans H; rw [hy153]; with_reducible exact H2_) | (have H2_ := (Option.bind_some _ _).symm.trans H; with_reducible exact H2_) | with_reducible exact H | (rw [hy153]; exact H) | exact H
   have Ny153 := Aside0.mk hy153
   clear hy153
   have H' := Aside0.mk H
   clear H
   have p10 : 0 ≤ ((Go.bits .and .u64 (ji7) 31) : Int) := dA_
   have q10 : (Go.bits .and .u64 (ji7) 31) < (32 : Int) := dA_
   have hx10 := bt_at (⟨#[48, 49, 50, 51, 52, 53, 54, 55, 56, 57, 97, 98, 99, 100, 102, 103, 104, 105, 106, 107, 108, 109, 110, 112, 113, 114, 115, 118, 119, 120, 121, 122]⟩ : ByteArray) (Go.bits .and .u64 (ji7) 31)
   replace p10 := eq_true p10
   replace q10 := eq_true q10
   go_wp2_with (first | ((with_reducible refine gate_builtin (b := .append) (xs := #[.tmp 10, .tmp 18]) rfl ?_); at_builtin; refine Kd.R_append (Kd.int .u8) (w0 := w) w.heap.size rfl (.tmp 10) (.tmp 18) 81 5 (.int .u8 0) 1 rfl Tryz.underlying81 info5 rfl (by decide) (by omega) u3 x3_1 (bt (⟨#[48, 49, 50, 51, 52, 53, 54, 55, 56, 57, 97, 98, 99, 100, 102, 103, 104, 105, 106, 107, 108, 109, 110, 112, 113, 114, 115, 118, 119, 120, 121, 122]⟩ : ByteArray) (Go.bits .and .u64 (ji7) 31)) [.int .u8 (bt (⟨#[48, 49, 50, 51, 52, 53, 54, 55, 56, 57, 97, 98, 99, 100, 102, 103, 104, 105, 106, 107, 108, 109, 110, 112, 113, 114, 115, 118, 119, 120, 121, 122]⟩ : ByteArray) (Go.bits .and .u64 (ji7) 31))] (fun _ => True) (fun _ => False) rfl rfl ?aP (fun _ hk => hk.elim) ?aF ?aO ?aB ?aS ?aL ?_; (case aP => exact rfl); (case aB => exact (bw_ HB)); (case aF => exact (fun _ _ => trivial)); (case aO => exact (by (with_reducible repeat (first | apply Kd.R_alloc | apply Kd.R_drewN | apply Kd.R_drew)); exact HO_3.out)); (case aS => exact (below_size (bw_ HB))); (case aL => have := LMc11.out; omega); intro v154 w12 ho hb hg hat; rw [← Ny153.out] at ho; have n0_ := Aside0.mk (hb); have n1_ := Aside0.mk (ho); clear HB; clear HO_3; have HB := n0_; have HO155 := n1_; clear n0_ n1_; clear ho hb hg hat))
   go_roundg k1
   case measure => have := HK1.out; omega
   case rel => exact ⟨(y153), (wrap64 (x4_1 - 1)), (by first | rfl | (simp; done) | (simp [*]; done)), H', ⟨by have := HK1.out; omega⟩, ⟨by (with_reducible repeat (first | apply Kd.R_alloc | apply Kd.R_drewN | apply Kd.R_drew)); exact HO155.out⟩, ⟨bw_ HB⟩⟩}
   {
   rw [if_neg c11] at H
   exact absurd H (by simp)}}
   {
   rw [if_neg c9] at H
   exact absurd H (by simp)}}
   {
   rw [if_neg c8] at H
   exact absurd H (by simp)}}
   {
   rw [if_neg c6] at H
   exact absurd H (by simp)}}
   {
   rw [if_neg c4] at H
   have c4b0 : decide (0 ≤ x4_1) = false := decide_eq_false c4
   clear c4
   obtain rfl := Option.some.inj H
   have hcv13 := own_string (P := Tryz.prog) Tryz.underlying81 Tryz.underlying5 Tryz.underlying9 (Kd.own_of_R HO_3.out)
   go_wp2
   go_ret
   exact ⟨eR_, bw_ HB⟩
}
mutual
def spec_Sum.l0 : Nat → List Int → Int → Int → Option (Int)
 | 0, _, _, _ => none
 | k + 1, x0, x3, x4 => if x4 < (x0.length : Int) then (if 0 ≤ x4 then (spec_Sum.l0 k x0 (IntKind.u64.wrap ((Go.bits .xor .u64 x3 (IntKind.u64.wrap (rd x0 x4))) * 1099511628211)) (wrap64 (x4 + 1))) else (none)) else (spec_Sum.l1 k x3 0)
def spec_Sum.l1 : Nat → Int → Int → Option (Int)
 | 0, _, _ => none
 | k + 1, x3, x5 => if x5 < 3 then (spec_Sum.l1 k (IntKind.u64.wrap ((Go.bits .xor .u64 x3 (x3 / 536870912)) * 11400714819323198485)) (wrap64 (x5 + 1))) else (some (Go.bits .xor .u64 x3 (x3 / 4294967296)))
end
def spec_Sum.f (k : Nat) (l0 : List Int) : Option (Int) := spec_Sum.l0 k l0 14695981039346656037 0
set_option maxHeartbeats 8000000 in
set_option maxRecDepth 100000 in
theorem spec_Sum.calls (k : Nat) (A0 : Option Addr) (c0 : Nat) (l0 : List Int) (r : Int) (w : World) (hr0 : Kd.C (Kd.int .u8) w A0 l0.length l0) (hc0 : l0.length ≤ c0) (h : spec_Sum.f k l0 = some r) :
 Calls Tryz.prog 82 #[.slice A0 l0.length c0] w fun e w' => e = .returned (.int .u64 r) ∧ Drawn0 w w' := by
 have HR0 := Aside0.mk hr0
 have HC0 := Aside0.mk hc0
 clear hr0 hc0
 have H : (spec_Sum.l0 k l0 14695981039346656037 0) = some r := h
 clear h
 have H' := Aside0.mk H
 clear H
 go_enter Tryz.func82, Tryz.ntmps82
 go_wp2
 go_loopg [3, 4] k (fun kq v3 v4 w' => ∃ (x3_1 : Int) (x4_1 : Int), v3 = .int .u64 x3_1 ∧ v4 = .int .i64 x4_1 ∧ Aside0 (spec_Sum.l0 kq l0 x3_1 x4_1 = some r) ∧ Aside0 (kq ≤ k) ∧ Drawn0 w w')
 case atStart => exact ⟨(14695981039346656037), (0), (by first | rfl | (simp; done) | (simp [*]; done)), (by first | rfl | (simp; done) | (simp [*]; done)), H', ⟨Nat.le_refl _⟩, dR_⟩
 case round =>
  clear H'
  obtain ⟨x3_1, x4_1, rfl, rfl, HA, HK1, ⟨m1, rfl⟩⟩ := hrel
  cases gk with
  | zero => exact absurd HA.out (by simp [spec_Sum.l0])
  | succ k1 =>
   have H := HA.out
   clear HA
   simp only [spec_Sum.l0] at H
   by_cases c2 : x4_1 < (l0.length : Int)
   {
   rw [if_pos c2] at H
   have c2b0 : decide (x4_1 < (l0.length : Int)) = true := decide_eq_true c2
   clear c2
   by_cases c3 : 0 ≤ x4_1
   {
   rw [if_pos c3] at H
   have c3b0 : decide (0 ≤ x4_1) = true := decide_eq_true c3
   clear c3
   have H' := Aside0.mk H
   clear H
   have p156 : 0 ≤ (x4_1 : Int) := dA_
   have q156 : x4_1 < (l0.length : Int) := dA_
   obtain ⟨ad156, e156, hx156_0⟩ := Kd.at_int HR0.out x4_1 p156 q156
   cases e156
   replace p156 := eq_true p156
   replace q156 := eq_true q156
   go_wp2
   go_roundg k1
   case measure => have := HK1.out; omega
   case rel => exact ⟨(IntKind.u64.wrap ((Go.bits .xor .u64 x3_1 (IntKind.u64.wrap (rd l0 x4_1))) * 1099511628211)), (wrap64 (x4_1 + 1)), (by first | rfl | (simp; done) | (simp [*]; done)), (by first | rfl | (simp; done) | (simp [*]; done)), H', ⟨by have := HK1.out; omega⟩, dR_⟩}
   {
   rw [if_neg c3] at H
   exact absurd H (by simp)}}
   {
   rw [if_neg c2] at H
   have c2b0 : decide (x4_1 < (l0.length : Int)) = false := decide_eq_false c2
   clear c2
   have H' := Aside0.mk H
   clear H
   go_wp2
   go_loopg [3, 5] k1 (fun kq v3 v5 w' => ∃ (x3_2 : Int) (x5_2 : Int), v3 = .int .u64 x3_2 ∧ v5 = .int .i64 x5_2 ∧ Aside0 (spec_Sum.l1 kq x3_2 x5_2 = some r) ∧ Aside0 (kq ≤ k1) ∧ Drawn0 w w')
   case atStart => exact ⟨(x3_1), (0), (by first | rfl | (simp; done) | (simp [*]; done)), (by first | rfl | (simp; done) | (simp [*]; done)), H', ⟨Nat.le_refl _⟩, dR_⟩
   case round =>
    clear H'
    try clear p1
    try clear q1
    try clear hx1
    try clear c2
    try clear c2b0
    try clear p2
    try clear c3
    try clear c3b0
    try clear hx156_0
    try clear p156
    try clear q156
    obtain ⟨x3_2, x5_2, rfl, rfl, HA, HK2, ⟨m2, rfl⟩⟩ := hrel
    cases gk with
    | zero => exact absurd HA.out (by simp [spec_Sum.l1])
    | succ k2 =>
     have H := HA.out
     clear HA
     simp only [spec_Sum.l1] at H
     by_cases c4 : x5_2 < 3
     {
     rw [if_pos c4] at H
     have c4b0 : decide (x5_2 < 3) = true := decide_eq_true c4
     clear c4
     have H' := Aside0.mk H
     clear H
     go_wp2
     go_roundg k2
     case measure => have := HK1.out; have := HK2.out; omega
     case rel => exact ⟨(IntKind.u64.wrap ((Go.bits .xor .u64 x3_2 (x3_2 / 536870912)) * 11400714819323198485)), (wrap64 (x5_2 + 1)), (by first | rfl | (simp; done) | (simp [*]; done)), (by first | rfl | (simp; done) | (simp [*]; done)), H', ⟨by have := HK1.out; have := HK2.out; omega⟩, dR_⟩}
     {
     rw [if_neg c4] at H
     have c4b0 : decide (x5_2 < 3) = false := decide_eq_false c4
     clear c4
     obtain rfl := Option.some.inj H
     go_wp2
     go_ret
     exact ⟨eS_, dR_⟩
}}
def spec_l10Num.l0 : Nat → List Int → Int → Option (List Int)
 | 0, _, _ => none
 | k + 1, x0, x1 => if x1 ≥ 128 then (if x0.length < 140737488355328 then (spec_l10Num.l0 k (x0 ++ [(wrap64 ((Int.tmod x1 128) + 128)) % 256]) (wrap64 (Int.tdiv x1 128))) else (none)) else (if x0.length < 140737488355328 then (some (x0 ++ [(x1) % 256])) else (none))
def spec_l10Num.f (k : Nat) (l0 : List Int) (a1 : Int) : Option (List Int) := spec_l10Num.l0 k l0 a1
set_option maxHeartbeats 8000000 in
set_option maxRecDepth 100000 in
theorem spec_l10Num.calls (k : Nat) (P0_ : Nat → Prop) (u9000_ : Value) (l0 : List Int) (a1 : Int) (r : List Int) (w0 w : World) (hB : Below w0.heap.size w0 w) (ho0 : Kd.R (Kd.int .u8) 5 w w0.heap.size P0_ u9000_ l0) (h : spec_l10Num.f k l0 a1 = some r) :
 Calls Tryz.prog 98 #[u9000_, .int .i64 a1] w fun e w' => ∃ v0_ : Value, e = .returned (v0_) ∧ Kd.R (Kd.int .u8) 5 w' w0.heap.size (fun k_ => (P0_ k_ ∨ w.heap.size ≤ k_)) v0_ r ∧ Below w0.heap.size w0 w' ∧ Kept w w' (fun k_ => P0_ k_) := by
 have HO0 := Aside0.mk (show Kd.R (Kd.int .u8) 5 w w0.heap.size (fun k_ => (P0_ k_ ∨ w.heap.size ≤ k_)) u9000_ l0 from Kd.R_mono ho0 (fun k_ hk => (.inl hk)))
 have HK := Aside0.mk (Kept.refl w (fun k_ => P0_ k_))
 have HW0 := Aside0.mk hB.size
 have HB := Aside0.mk hB
 clear hB
 have H : (spec_l10Num.l0 k l0 a1) = some r := h
 clear h
 have H' := Aside0.mk H
 clear H
 go_enter Tryz.func98, Tryz.ntmps98
 go_wp2
 go_loopg [0, 1] k (fun kq v0 v1 w' => ∃ (x0_1 : List Int) (x1_1 : Int), v1 = .int .i64 x1_1 ∧ Aside0 (spec_l10Num.l0 kq x0_1 x1_1 = some r) ∧ Aside0 (kq ≤ k) ∧ Aside0 (Kd.R (Kd.int .u8) 5 w' w0.heap.size (fun k_ => (P0_ k_ ∨ w.heap.size ≤ k_)) v0 x0_1) ∧ Aside0 (Kept w w' (fun k_ => P0_ k_)) ∧ Aside0 (Below w0.heap.size w0 w'))
 case atStart => exact ⟨(l0), (a1), (by first | rfl | (simp; done) | (simp [*]; done)), H', ⟨Nat.le_refl _⟩, ⟨by (with_reducible repeat (first | apply Kd.R_alloc | apply Kd.R_drewN | apply Kd.R_drew)); exact HO0.out⟩, ⟨by repeat (first | (with_reducible first | exact HK.out | apply Kept.alloc | apply Kept.drewN | apply Kept.drew) | exact HK.out)⟩, ⟨bw_ HB⟩⟩
 case round =>
  clear H'
  try clear p2
  obtain ⟨x0_1, x1_1, rfl, HA, HK1, HO_0, HK, HB⟩ := hrel
  cases gk with
  | zero => exact absurd HA.out (by simp [spec_l10Num.l0])
  | succ k1 =>
   have H := HA.out
   clear HA
   simp only [spec_l10Num.l0] at H
   by_cases c3 : x1_1 ≥ 128
   {
   rw [if_pos c3] at H
   have c3b0 : decide (128 ≤ x1_1) = true := decide_eq_true c3
   clear c3
   by_cases c4 : x0_1.length < 140737488355328
   {
   rw [if_pos c4] at H
   have LMc4 := Aside0.mk c4
   clear c4
   obtain ⟨y157, hy157⟩ : ∃ y_ : List Int, y_ = (x0_1 ++ [(wrap64 ((Int.tmod x1_1 128) + 128)) % 256]) := ⟨_, rfl⟩
   replace H : (spec_l10Num.l0 k1 y157 (wrap64 (Int.tdiv x1_1 128))) = some r := by first | (rw [hy157]; with_reducible exact H) | (have H2_ := (Option.bind_some _ _).symm.trans H; rw [hy157]; with_reducible exact H2_) | (have H2_ := (Option.bind_some _ _).symm.trans H; with_reducible exact H2_) | with_reducible exact H | (rw [hy157]; exact H) | exact H
   have Ny157 := Aside0.mk hy157
   clear hy157
   have H' := Aside0.mk H
   clear H
   go_wp2_with (first | ((with_reducible refine gate_builtin (b := .append) (xs := #[.tmp 7, .tmp 12]) rfl ?_); at_builtin; refine Kd.R_append (Kd.int .u8) (w0 := w0) w0.heap.size rfl (.tmp 7) (.tmp 12) 81 5 (.int .u8 0) 1 rfl Tryz.underlying81 info5 rfl (by decide) (by omega) u0 x0_1 ((wrap64 ((Int.tmod x1_1 128) + 128)) % 256) [.int .u8 ((wrap64 ((Int.tmod x1_1 128) + 128)) % 256)] (fun k_ => (P0_ k_ ∨ w.heap.size ≤ k_)) (fun _ => False) rfl rfl ?aP (fun _ hk => hk.elim) ?aF ?aO ?aB ?aS ?aL ?_; (case aP => exact rfl); (case aB => exact (bw_ HB)); (case aF => exact (fun k_ hk => (.inr (Nat.le_trans (by first | exact HK.out.1 | exact (show Kept w _ (fun k_ => P0_ k_) from by repeat (first | (with_reducible first | exact HK.out | apply Kept.alloc | apply Kept.drewN | apply Kept.drew) | exact HK.out)).1) hk)))); (case aO => exact (by (with_reducible repeat (first | apply Kd.R_alloc | apply Kd.R_drewN | apply Kd.R_drew)); exact HO_0.out)); (case aS => exact (below_size (bw_ HB))); (case aL => have := LMc4.out; omega); intro v158 w5 ho hb hg hat; rw [← Ny157.out] at ho; have n0_ := Aside0.mk (hb); have n1_ := Aside0.mk (Kept.of_grown (S := (fun k_ => P0_ k_)) hg (by repeat (first | (with_reducible first | exact HK.out | apply Kept.alloc | apply Kept.drewN | apply Kept.drew) | exact HK.out)) (fun k_ e_ => (HO_0.out.1 k_ e_))); have n2_ := Aside0.mk (ho); clear HB; clear HK; clear HO_0; have HB := n0_; have HK := n1_; have HO159 := n2_; clear n0_ n1_ n2_; clear ho hb hg hat))
   go_roundg k1
   case measure => have := HK1.out; omega
   case rel => exact ⟨(y157), (wrap64 (Int.tdiv x1_1 128)), (by first | rfl | (simp; done) | (simp [*]; done)), H', ⟨by have := HK1.out; omega⟩, ⟨by (with_reducible repeat (first | apply Kd.R_alloc | apply Kd.R_drewN | apply Kd.R_drew)); exact HO159.out⟩, ⟨by repeat (first | (with_reducible first | exact HK.out | apply Kept.alloc | apply Kept.drewN | apply Kept.drew) | exact HK.out)⟩, ⟨bw_ HB⟩⟩}
   {
   rw [if_neg c4] at H
   exact absurd H (by simp)}}
   {
   rw [if_neg c3] at H
   have c3b0 : decide (128 ≤ x1_1) = false := decide_eq_false c3
   clear c3
   by_cases c6 : x0_1.length < 140737488355328
   {
   rw [if_pos c6] at H
   have LMc6 := Aside0.mk c6
   clear c6
   obtain ⟨y160, hy160⟩ : ∃ y_ : List Int, y_ = (x0_1 ++ [(x1_1) % 256]) := ⟨_, rfl⟩
   replace H : (some y160) = some r := by first | (rw [hy160]; with_reducible exact H) | (have H2_ := (Option.bind_some _ _).symm.trans H; rw [hy160]; with_reducible exact H2_) | (have H2_ := (Option.bind_some _ _).symm.trans H; with_reducible exact H2_) | with_reducible exact H | (rw [hy160]; exact H) | exact H
   have Ny160 := Aside0.mk hy160
   clear hy160
   obtain rfl := Option.some.inj H
   go_wp2_with (first | ((with_reducible refine gate_builtin (b := .append) (xs := #[.tmp 16, .tmp 19]) rfl ?_); at_builtin; refine Kd.R_append (Kd.int .u8) (w0 := w0) w0.heap.size rfl (.tmp 16) (.tmp 19) 81 5 (.int .u8 0) 1 rfl Tryz.underlying81 info5 rfl (by decide) (by omega) u0 x0_1 ((x1_1) % 256) [.int .u8 ((x1_1) % 256)] (fun k_ => (P0_ k_ ∨ w.heap.size ≤ k_)) (fun _ => False) rfl rfl ?aP (fun _ hk => hk.elim) ?aF ?aO ?aB ?aS ?aL ?_; (case aP => exact rfl); (case aB => exact (bw_ HB)); (case aF => exact (fun k_ hk => (.inr (Nat.le_trans (by first | exact HK.out.1 | exact (show Kept w _ (fun k_ => P0_ k_) from by repeat (first | (with_reducible first | exact HK.out | apply Kept.alloc | apply Kept.drewN | apply Kept.drew) | exact HK.out)).1) hk)))); (case aO => exact (by (with_reducible repeat (first | apply Kd.R_alloc | apply Kd.R_drewN | apply Kd.R_drew)); exact HO_0.out)); (case aS => exact (below_size (bw_ HB))); (case aL => have := LMc6.out; omega); intro v161 w7 ho hb hg hat; rw [← Ny160.out] at ho; have n0_ := Aside0.mk (hb); have n1_ := Aside0.mk (Kept.of_grown (S := (fun k_ => P0_ k_)) hg (by repeat (first | (with_reducible first | exact HK.out | apply Kept.alloc | apply Kept.drewN | apply Kept.drew) | exact HK.out)) (fun k_ e_ => (HO_0.out.1 k_ e_))); have n2_ := Aside0.mk (ho); clear HB; clear HK; clear HO_0; have HB := n0_; have HK := n1_; have HO162 := n2_; clear n0_ n1_ n2_; clear ho hb hg hat))
   go_ret
   exact ⟨_, eR_, by (with_reducible repeat (first | apply Kd.R_alloc | apply Kd.R_drewN | apply Kd.R_drew)); exact HO162.out, bw_ HB, by repeat (first | (with_reducible first | exact HK.out | apply Kept.alloc | apply Kept.drewN | apply Kept.drew) | exact HK.out)⟩}
   {
   rw [if_neg c6] at H
   exact absurd H (by simp)
}}
set_option maxHeartbeats 8000000 in
set_option maxRecDepth 100000 in
theorem spec_l10Num.callsZ (k : Nat) (P0_ : Nat → Prop) (u9000_ : Value) (l0 : List Int) (a1 : Int) (r : List Int) (w0 w : World) (hB : Below w0.heap.size w0 w) (ho0 : Kd.Z (Kd.int .u8) 5 w w0.heap.size P0_ u9000_ l0) (h : spec_l10Num.f k l0 a1 = some r) :
 Calls Tryz.prog 98 #[u9000_, .int .i64 a1] w fun e w' => ∃ v0_ : Value, e = .returned (v0_) ∧ Kd.R (Kd.int .u8) 5 w' w0.heap.size (fun k_ => (P0_ k_ ∨ w.heap.size ≤ k_)) v0_ r ∧ Below w0.heap.size w0 w' ∧ Kept w w' (fun k_ => P0_ k_) := by
 have HO0 := Aside0.mk (show Kd.Z (Kd.int .u8) 5 w w0.heap.size (fun k_ => (P0_ k_ ∨ w.heap.size ≤ k_)) u9000_ l0 from Kd.Z_mono ho0 (fun k_ hk => (.inl hk)))
 have HK := Aside0.mk (Kept.refl w (fun k_ => P0_ k_))
 have HW0 := Aside0.mk hB.size
 have HB := Aside0.mk hB
 clear hB
 have H : (spec_l10Num.l0 k l0 a1) = some r := h
 clear h
 have H' := Aside0.mk H
 clear H
 go_enter Tryz.func98, Tryz.ntmps98
 go_wp2
 go_loopg [0, 1] k (fun kq v0 v1 w' => ∃ (x0_1 : List Int) (x1_1 : Int), v1 = .int .i64 x1_1 ∧ Aside0 (spec_l10Num.l0 kq x0_1 x1_1 = some r) ∧ Aside0 (kq ≤ k) ∧ Aside0 (Kd.Z (Kd.int .u8) 5 w' w0.heap.size (fun k_ => (P0_ k_ ∨ w.heap.size ≤ k_)) v0 x0_1) ∧ Aside0 (Kept w w' (fun k_ => P0_ k_)) ∧ Aside0 (Below w0.heap.size w0 w'))
 case atStart => exact ⟨(l0), (a1), (by first | rfl | (simp; done) | (simp [*]; done)), H', ⟨Nat.le_refl _⟩, ⟨HO0.out⟩, ⟨by repeat (first | (with_reducible first | exact HK.out | apply Kept.alloc | apply Kept.drewN | apply Kept.drew) | exact HK.out)⟩, ⟨bw_ HB⟩⟩
 case round =>
  clear H'
  try clear p2
  obtain ⟨x0_1, x1_1, rfl, HA, HK1, HO_0, HK, HB⟩ := hrel
  cases gk with
  | zero => exact absurd HA.out (by simp [spec_l10Num.l0])
  | succ k1 =>
   have H := HA.out
   clear HA
   simp only [spec_l10Num.l0] at H
   by_cases c3 : x1_1 ≥ 128
   {
   rw [if_pos c3] at H
   have c3b0 : decide (128 ≤ x1_1) = true := decide_eq_true c3
   clear c3
   by_cases c4 : x0_1.length < 140737488355328
   {
   rw [if_pos c4] at H
   have LMc4 := Aside0.mk c4
   clear c4
   obtain ⟨y157, hy157⟩ : ∃ y_ : List Int, y_ = (x0_1 ++ [(wrap64 ((Int.tmod x1_1 128) + 128)) % 256]) := ⟨_, rfl⟩
   replace H : (spec_l10Num.l0 k1 y157 (wrap64 (Int.tdiv x1_1 128))) = some r := by first | (rw [hy157]; with_reducible exact H) | (have H2_ := (Option.bind_some _ _).symm.trans H; rw [hy157]; with_reducible exact H2_) | (have H2_ := (Option.bind_some _ _).symm.trans H; with_reducible exact H2_) | with_reducible exact H | (rw [hy157]; exact H) | exact H
   have Ny157 := Aside0.mk hy157
   clear hy157
   have H' := Aside0.mk H
   clear H
   go_wp2_with (first | ((with_reducible refine gate_builtin (b := .append) (xs := #[.tmp 7, .tmp 12]) rfl ?_); at_builtin; refine Kd.Z_append (Kd.int .u8) (w0 := w0) w0.heap.size rfl (.tmp 7) (.tmp 12) 81 5 (.int .u8 0) 1 rfl Tryz.underlying81 info5 rfl (by decide) (by omega) u0 x0_1 ((wrap64 ((Int.tmod x1_1 128) + 128)) % 256) [.int .u8 ((wrap64 ((Int.tmod x1_1 128) + 128)) % 256)] (fun k_ => (P0_ k_ ∨ w.heap.size ≤ k_)) (fun _ => False) rfl rfl ?aP (fun _ hk => hk.elim) ?aF ?aO ?aB ?aS ?aL rfl ?_; (case aP => exact rfl); (case aB => exact (bw_ HB)); (case aF => exact (fun k_ hk => (.inr (Nat.le_trans (by first | exact HK.out.1 | exact (show Kept w _ (fun k_ => P0_ k_) from by repeat (first | (with_reducible first | exact HK.out | apply Kept.alloc | apply Kept.drewN | apply Kept.drew) | exact HK.out)).1) hk)))); (case aO => exact (by (with_reducible repeat (first | apply Kd.R_alloc | apply Kd.R_drewN | apply Kd.R_drew)); exact HO_0.out)); (case aS => exact (below_size (bw_ HB))); (case aL => have := LMc4.out; omega); intro v158 w5 ho hb hg hat; rw [← Ny157.out] at ho; have n0_ := Aside0.mk (hb); have n1_ := Aside0.mk (Kept.of_grown (S := (fun k_ => P0_ k_)) hg (by repeat (first | (with_reducible first | exact HK.out | apply Kept.alloc | apply Kept.drewN | apply Kept.drew) | exact HK.out)) (fun k_ e_ => (Kd.Z_ok HO_0.out k_ e_))); have n2_ := Aside0.mk (ho); clear HB; clear HK; clear HO_0; have HB := n0_; have HK := n1_; have HO159 := n2_; clear n0_ n1_ n2_; clear ho hb hg hat))
   go_roundg k1
   case measure => have := HK1.out; omega
   case rel => exact ⟨(y157), (wrap64 (Int.tdiv x1_1 128)), (by first | rfl | (simp; done) | (simp [*]; done)), H', ⟨by have := HK1.out; omega⟩, ⟨Kd.Z_of (by (with_reducible repeat (first | apply Kd.R_alloc | apply Kd.R_drewN | apply Kd.R_drew)); exact HO159.out)⟩, ⟨by repeat (first | (with_reducible first | exact HK.out | apply Kept.alloc | apply Kept.drewN | apply Kept.drew) | exact HK.out)⟩, ⟨bw_ HB⟩⟩}
   {
   rw [if_neg c4] at H
   exact absurd H (by simp)}}
   {
   rw [if_neg c3] at H
   have c3b0 : decide (128 ≤ x1_1) = false := decide_eq_false c3
   clear c3
   by_cases c6 : x0_1.length < 140737488355328
   {
   rw [if_pos c6] at H
   have LMc6 := Aside0.mk c6
   clear c6
   obtain ⟨y160, hy160⟩ : ∃ y_ : List Int, y_ = (x0_1 ++ [(x1_1) % 256]) := ⟨_, rfl⟩
   replace H : (some y160) = some r := by first | (rw [hy160]; with_reducible exact H) | (have H2_ := (Option.bind_some _ _).symm.trans H; rw [hy160]; with_reducible exact H2_) | (have H2_ := (Option.bind_some _ _).symm.trans H; with_reducible exact H2_) | with_reducible exact H | (rw [hy160]; exact H) | exact H
   have Ny160 := Aside0.mk hy160
   clear hy160
   obtain rfl := Option.some.inj H
   go_wp2_with (first | ((with_reducible refine gate_builtin (b := .append) (xs := #[.tmp 16, .tmp 19]) rfl ?_); at_builtin; refine Kd.Z_append (Kd.int .u8) (w0 := w0) w0.heap.size rfl (.tmp 16) (.tmp 19) 81 5 (.int .u8 0) 1 rfl Tryz.underlying81 info5 rfl (by decide) (by omega) u0 x0_1 ((x1_1) % 256) [.int .u8 ((x1_1) % 256)] (fun k_ => (P0_ k_ ∨ w.heap.size ≤ k_)) (fun _ => False) rfl rfl ?aP (fun _ hk => hk.elim) ?aF ?aO ?aB ?aS ?aL rfl ?_; (case aP => exact rfl); (case aB => exact (bw_ HB)); (case aF => exact (fun k_ hk => (.inr (Nat.le_trans (by first | exact HK.out.1 | exact (show Kept w _ (fun k_ => P0_ k_) from by repeat (first | (with_reducible first | exact HK.out | apply Kept.alloc | apply Kept.drewN | apply Kept.drew) | exact HK.out)).1) hk)))); (case aO => exact (by (with_reducible repeat (first | apply Kd.R_alloc | apply Kd.R_drewN | apply Kd.R_drew)); exact HO_0.out)); (case aS => exact (below_size (bw_ HB))); (case aL => have := LMc6.out; omega); intro v161 w7 ho hb hg hat; rw [← Ny160.out] at ho; have n0_ := Aside0.mk (hb); have n1_ := Aside0.mk (Kept.of_grown (S := (fun k_ => P0_ k_)) hg (by repeat (first | (with_reducible first | exact HK.out | apply Kept.alloc | apply Kept.drewN | apply Kept.drew) | exact HK.out)) (fun k_ e_ => (Kd.Z_ok HO_0.out k_ e_))); have n2_ := Aside0.mk (ho); clear HB; clear HK; clear HO_0; have HB := n0_; have HK := n1_; have HO162 := n2_; clear n0_ n1_ n2_; clear ho hb hg hat))
   go_ret
   exact ⟨_, eR_, by (with_reducible repeat (first | apply Kd.R_alloc | apply Kd.R_drewN | apply Kd.R_drew)); exact HO162.out, bw_ HB, by repeat (first | (with_reducible first | exact HK.out | apply Kept.alloc | apply Kept.drewN | apply Kept.drew) | exact HK.out)⟩}
   {
   rw [if_neg c6] at H
   exact absurd H (by simp)
}}
def spec_l10Text.f (k : Nat) (l0 : List Int) (a1 : ByteArray) : Option (List Int) := (spec_l10Num.f k l0 (a1.size : Int)).bind fun t163 => (if a1.size ≤ 9223372036854775807 then ((some (bytesOf a1 : List Int)).bind fun y166 => (if t163.length + y166.length < 140737488355328 then (some (t163 ++ y166)) else (none))) else (none))
set_option maxHeartbeats 8000000 in
set_option maxRecDepth 100000 in
theorem spec_l10Text.calls (k : Nat) (P0_ : Nat → Prop) (u9000_ : Value) (l0 : List Int) (a1 : ByteArray) (r : List Int) (w0 w : World) (hB : Below w0.heap.size w0 w) (ho0 : Kd.R (Kd.int .u8) 5 w w0.heap.size P0_ u9000_ l0) (h : spec_l10Text.f k l0 a1 = some r) :
 Calls Tryz.prog 99 #[u9000_, .string a1] w fun e w' => ∃ v0_ : Value, e = .returned (v0_) ∧ Kd.R (Kd.int .u8) 5 w' w0.heap.size (fun k_ => (P0_ k_ ∨ w.heap.size ≤ k_)) v0_ r ∧ Below w0.heap.size w0 w' ∧ Kept w w' (fun k_ => P0_ k_) := by
 have HO0 := Aside0.mk (show Kd.R (Kd.int .u8) 5 w w0.heap.size (fun k_ => (P0_ k_ ∨ w.heap.size ≤ k_)) u9000_ l0 from Kd.R_mono ho0 (fun k_ hk => (.inl hk)))
 have HK := Aside0.mk (Kept.refl w (fun k_ => P0_ k_))
 have HW0 := Aside0.mk hB.size
 have HB := Aside0.mk hB
 clear hB
 have H : ((spec_l10Num.f k l0 (a1.size : Int)).bind fun t163 => (if a1.size ≤ 9223372036854775807 then ((some (bytesOf a1 : List Int)).bind fun y166 => (if t163.length + y166.length < 140737488355328 then (some (t163 ++ y166)) else (none))) else (none))) = some r := h
 clear h
 replace H := Option.bind_eq_some_iff.mp H
 obtain ⟨t163, A30, H⟩ := H
 have A3 := Aside0.mk A30
 clear A30
 by_cases c4 : a1.size ≤ 9223372036854775807
 {
 rw [if_pos c4] at H
 have c4b0 := eq_true c4
 have c4b1 : decide (a1.size ≤ 9223372036854775807) = true := decide_eq_true c4
 try have c4b2 : (9223372036854775807 < a1.size) = False := eq_false (Nat.not_lt.2 c4)
 clear c4
 obtain ⟨y166, hy166⟩ : ∃ y_ : List Int, y_ = (bytesOf a1) := ⟨_, rfl⟩
 replace H : (if t163.length + y166.length < 140737488355328 then (some (t163 ++ y166)) else (none)) = some r := by first | (rw [hy166]; with_reducible exact H) | (have H2_ := (Option.bind_some _ _).symm.trans H; rw [hy166]; with_reducible exact H2_) | (have H2_ := (Option.bind_some _ _).symm.trans H; with_reducible exact H2_) | with_reducible exact H | (rw [hy166]; exact H) | exact H
 have Ny166 := Aside0.mk hy166
 clear hy166
 by_cases c5 : t163.length + y166.length < 140737488355328
 {
 rw [if_pos c5] at H
 have LMc5 := Aside0.mk c5
 clear c5
 obtain ⟨y168, hy168⟩ : ∃ y_ : List Int, y_ = (t163 ++ y166) := ⟨_, rfl⟩
 replace H : (some y168) = some r := by first | (rw [hy168]; with_reducible exact H) | (have H2_ := (Option.bind_some _ _).symm.trans H; rw [hy168]; with_reducible exact H2_) | (have H2_ := (Option.bind_some _ _).symm.trans H; with_reducible exact H2_) | with_reducible exact H | (rw [hy168]; exact H) | exact H
 have Ny168 := Aside0.mk hy168
 clear hy168
 obtain rfl := Option.some.inj H
 obtain ⟨Ao6, co6, eo6⟩ := Kd.R_slice HO0.out
 subst eo6
 go_enter Tryz.func99, Tryz.ntmps99
 go_wp2_with (first | ((with_reducible refine gate_callee (f := 98) rfl ?_); refine gL_ (some 8) Tryz.func98 #[.slice Ao6 l0.length co6, .int .i64 (a1.size : Int)] ?_; (with_reducible refine (spec_l10Num.calls k (fun k_ => some k_ = (.slice Ao6 l0.length co6 : Value).ownBlock) (.slice Ao6 l0.length co6) l0 (a1.size : Int) t163 w0 _ ?side1 ?side2 A3.out).mono ?_); (case side1 => repeat (first | (with_reducible first | exact HB.out | apply below_alloc | apply pw_below_drewN | apply below_drew1) | exact HB.out)); (case side2 => exact Kd.R_tight rfl HO0.out); rintro e w7 ⟨v164, rfl, ho0, hb, hkp⟩; refine ⟨_, rfl, ?_⟩; have n0_ := Aside0.mk (Kd.R_mono (ok' := fun k_ => (P0_ k_ ∨ w.heap.size ≤ k_)) ho0 (fun k_ hk_ => Or.elim hk_ (fun hs_ => (HO0.out.1 k_ (hs_).symm)) (fun hn_ => (.inr (Nat.le_trans (by first | exact HK.out.1 | exact (show Kept w _ (fun k_ => P0_ k_) from by repeat (first | (with_reducible first | exact HK.out | apply Kept.alloc | apply Kept.drewN | apply Kept.drew) | exact HK.out)).1) hn_))))); have n1_ := Aside0.mk (Kept.then_ (S := (fun k_ => P0_ k_)) (by repeat (first | (with_reducible first | exact HK.out | apply Kept.alloc | apply Kept.drewN | apply Kept.drew) | exact HK.out)) hkp (fun k_ hs_ => (fun e_ => (HO0.out.1 k_ e_.symm)) hs_)); have n2_ := Aside0.mk (hb); clear HK; clear HB; clear HO0; have HO165 := n0_; have HK := n1_; have HB := n2_; clear n0_ n1_ n2_; (try clear hb); (try clear hkp); (try clear ho0)) | ((with_reducible refine gate_dst (N := 10) rfl ?_); refine conv_bytes rfl (N := 10) rfl 9 81 5 _ rfl Tryz.underlying9 Tryz.underlying81 Tryz.underlying5 a1 rfl (show a1.size ≤ 9223372036854775807 from by first | assumption | exact of_eq_true (by assumption) | exact of_decide_eq_true (by assumption) | decide | omega) _ Ny166.out ?_; intro A167 c167 w8 hcv hcl hb; have n0_ := Aside0.mk (Kd.R_below (by (with_reducible repeat (first | apply Kd.R_alloc | apply Kd.R_drewN | apply Kd.R_drew)); exact HO165.out) hb); have n1_ := Aside0.mk (Kept.below (S := (fun k_ => P0_ k_)) (by repeat (first | (with_reducible first | exact HK.out | apply Kept.alloc | apply Kept.drewN | apply Kept.drew) | exact HK.out)) hb); have n2_ := Aside0.mk (below_step (bw_ HB) hb); have n3_ := Aside0.mk (hcv); have n4_ := Aside0.mk (hcl); clear HO165; clear HK; clear HB; have HO165 := n0_; have HK := n1_; have HB := n2_; have HS167 := n3_; have HC167 := n4_; clear n0_ n1_ n2_ n3_ n4_; clear hb hcv hcl) | ((with_reducible refine gate_builtin (b := .append) (xs := #[.tmp 8, .tmp 10]) rfl ?_); at_builtin; refine Kd.R_append_rows (Kd.int .u8) (w0 := w0) w0.heap.size rfl (.tmp 8) (.tmp 10) 81 5 (.int .u8 0) 1 rfl Tryz.underlying81 info5 rfl (by decide) (by omega) v164 t163 y166 _ _ _ (fun k_ => (P0_ k_ ∨ w.heap.size ≤ k_)) (fun _ => False) rfl rfl ?aO ?aR (fun _ _ h => h) (fun _ h => h.elim) ?aF ?aB ?aS ?aL ?_; (case aR => repeat (first | exact (by repeat (first | (with_reducible exact HS167.out) | (with_reducible refine Kd.C_alloc ?_ _) | (with_reducible refine Kd.C_drewN ?_ _) | (with_reducible refine Kd.C_drew ?_) | exact HS167.out)) | (with_reducible refine Kd.C_alloc ?_ _) | (with_reducible refine Kd.C_drewN ?_ _) | (with_reducible refine Kd.C_drew ?_))); (case aB => exact (bw_ HB)); (case aF => exact (fun k_ hk => (.inr (Nat.le_trans (by first | exact HK.out.1 | exact (show Kept w _ (fun k_ => P0_ k_) from by repeat (first | (with_reducible first | exact HK.out | apply Kept.alloc | apply Kept.drewN | apply Kept.drew) | exact HK.out)).1) hk)))); (case aO => exact (by (with_reducible repeat (first | apply Kd.R_alloc | apply Kd.R_drewN | apply Kd.R_drew)); exact HO165.out)); (case aS => exact (below_size (bw_ HB))); (case aL => have := LMc5.out; omega); intro v169 w9 ho hb hg hat; rw [← Ny168.out] at ho; have n0_ := Aside0.mk (hb); have n1_ := Aside0.mk (Kept.of_grown (S := (fun k_ => P0_ k_)) hg (by repeat (first | (with_reducible first | exact HK.out | apply Kept.alloc | apply Kept.drewN | apply Kept.drew) | exact HK.out)) (fun k_ e_ => (HO165.out.1 k_ e_))); have n2_ := Aside0.mk (ho); clear HB; clear HK; clear HO165; have HB := n0_; have HK := n1_; have HO170 := n2_; clear n0_ n1_ n2_; clear ho hb hg hat))
 go_ret
 exact ⟨_, eR_, by (with_reducible repeat (first | apply Kd.R_alloc | apply Kd.R_drewN | apply Kd.R_drew)); exact HO170.out, bw_ HB, by repeat (first | (with_reducible first | exact HK.out | apply Kept.alloc | apply Kept.drewN | apply Kept.drew) | exact HK.out)⟩}
 {
 rw [if_neg c5] at H
 exact absurd H (by simp)}}
 {
 rw [if_neg c4] at H
 exact absurd H (by simp)
}
end Go.Proofs.YtkhhkpjeafknpaaGreatDoor.P
end

section
namespace Go.Proofs.YtkhhkpjeafknpaaGreatDoor.P
open Go.RowKit Go.Proofs.YtkhhkpjeafknpaaGreatDoorW.PrintWords Go.Proofs.YtkhhkpjeafknpaaGreatDoorW.PrintLast Go.Proofs.YtkhhkpjeafknpaaGreatDoorW.PrintMore Go.Proofs.YtkhhkpjeafknpaaGreatDoorM
attribute [local go_sem] max2_int min2_int max_two min_two max_three min_three max_four min_four
set_option linter.unusedVariables false
set_option linter.unusedSimpArgs false
def spec_PackTree.l0 : Nat → List (S70) → List Int → Int → Option (List Int)
 | 0, _, _, _ => none
 | k + 1, x0, x3, x4 => if x4 < (x0.length : Int) then (if 0 ≤ x4 then (if (rd_T70 x0 x4).f3 = true then (if x3.length < 140737488355328 then ((spec_l10Text.f k (x3 ++ [(wrap64 (((rd_T70 x0 x4).f1) + 16)) % 256]) ((rd_T70 x0 x4).f0)).bind fun t187 => ((spec_l10Text.f k t187 ((rd_T70 x0 x4).f2)).bind fun t191 => (spec_PackTree.l0 k x0 t191 (wrap64 (x4 + 1))))) else (none)) else (if x3.length < 140737488355328 then ((spec_l10Text.f k (x3 ++ [((rd_T70 x0 x4).f1) % 256]) ((rd_T70 x0 x4).f0)).bind fun t198 => ((spec_l10Text.f k t198 ((rd_T70 x0 x4).f2)).bind fun t202 => (spec_PackTree.l0 k x0 t202 (wrap64 (x4 + 1))))) else (none))) else (none)) else (some x3)
def spec_PackTree.f (k : Nat) (l0 : List (S70)) : Option (List Int) := (spec_TreeOk.f k l0).bind fun t171 => (if t171 = true then ((spec_l10Num.f k (([76, 65, 82, 49] : List Int)) (l0.length : Int)).bind fun t178 => (spec_PackTree.l0 k l0 t178 0)) else (some (([] : List Int))))
def spec_PackTree.T11 : Bool × List (List Nat × List Nat) := (true, [([], []), ([], []), ([], []), ([1, 2], [1, 2]), ([3], [3]), ([4], [4]), ([0, 5], [0, 5]), ([], []), ([], []), ([7, 8], [7, 8]), ([9], [9]), ([10], [10]), ([6, 11, 6], [6, 11]), ([12, 12, 0, 1, 2, 3, 4, 5, 6, 7, 8, 9, 10, 11, 12], [0, 12])])
def spec_PackTree.B11 : List Nat := [0, 0, 0, 6, 14, 30, 63, 0, 0, 384, 896, 1920, 4095, 8191]
theorem spec_PackTree.tab11 : rtab .any (opsOf Tryz.f83 11) = spec_PackTree.T11 := by kernel_rfl
theorem spec_PackTree.bits11 : waitsOk spec_PackTree.T11.2 spec_PackTree.B11 = true := by kernel_rfl
set_option maxHeartbeats 8000000 in
set_option maxRecDepth 100000 in
theorem spec_PackTree.calls (k : Nat) (A0 : Option Addr) (c0 : Nat) (l0 : List (S70)) (r : List Int) (w : World) (hr0 : Kd.C k70 w A0 l0.length l0) (hc0 : l0.length ≤ c0) (h : spec_PackTree.f k l0 = some r) :
 Calls Tryz.prog 83 #[.slice A0 l0.length c0] w fun e w' => ∃ v0_ : Value, e = .returned (v0_) ∧ Kd.R (Kd.int .u8) 5 w' w.heap.size (fun _ => True) v0_ r ∧ Below w.heap.size w w' := by
 have HR0 := Aside0.mk hr0
 have HC0 := Aside0.mk hc0
 clear hr0 hc0
 have HB := Aside0.mk (Below.refl w.heap.size w)
 have H : ((spec_TreeOk.f k l0).bind fun t171 => (if t171 = true then ((spec_l10Num.f k (([76, 65, 82, 49] : List Int)) (l0.length : Int)).bind fun t178 => (spec_PackTree.l0 k l0 t178 0)) else (some (([] : List Int))))) = some r := h
 clear h
 replace H := Option.bind_eq_some_iff.mp H
 obtain ⟨t171, A20, H⟩ := H
 have A2 := Aside0.mk A20
 clear A20
 by_cases c3 : t171 = true
 {
 subst c3
 rw [if_pos rfl] at H
 obtain ⟨y175, hy175⟩ : ∃ y_ : List Int, y_ = (([76, 65, 82, 49] : List Int)) := ⟨_, rfl⟩
 replace H : ((spec_l10Num.f k y175 (l0.length : Int)).bind fun t178 => (spec_PackTree.l0 k l0 t178 0)) = some r := by first | (rw [hy175]; with_reducible exact H) | (have H2_ := (Option.bind_some _ _).symm.trans H; rw [hy175]; with_reducible exact H2_) | (have H2_ := (Option.bind_some _ _).symm.trans H; with_reducible exact H2_) | with_reducible exact H | (rw [hy175]; exact H) | exact H
 have Ny175 := Aside0.mk hy175
 clear hy175
 replace H := Option.bind_eq_some_iff.mp H
 obtain ⟨t178, A40, H⟩ := H
 have A4 := Aside0.mk A40
 clear A40
 have H' := Aside0.mk H
 clear H
 go_enter Tryz.func83, Tryz.ntmps83
 go_wp2_with (first | ((with_reducible refine gate_callee (f := 44) rfl ?_); refine gL_ (some 7) Tryz.func44 #[.slice A0 l0.length c0] ?_; (with_reducible refine (spec_TreeOk.calls k _ _ l0 true _ ?side1 ?side2 A2.out).mono ?_); (case side1 => repeat (first | exact HR0.out | (with_reducible refine Kd.C_alloc ?_ _) | (with_reducible refine Kd.C_drewN ?_ _) | (with_reducible refine Kd.C_drew ?_))); (case side2 => exact HC0.out); rintro e w5 ⟨rfl, hb⟩; refine ⟨_, rfl, ?_⟩; have n0_ := Aside0.mk (below_step (bw_ HB) hb); clear HB; have HB := n0_; clear n0_; (try clear hb); (try clear hb2); (try clear hk); (try clear hi)) | ((with_reducible refine gate_dst (N := 10) rfl ?_); refine Kd.Z_litc (Kd.int .u8) _ 5 ?hg (N := 10) ?hd (xs := ([76, 65, 82, 49] : List Int)) (inner := [.int .u8 76, .int .u8 65, .int .u8 82, .int .u8 49]) (ok := fun _ => True) (okp := fun _ => True) ?hr ?hp (fun _ hk => hk) trivial (Below.refl _ _) (Nat.le_refl _) (by simp) rfl rfl 81 rfl Tryz.underlying81 Tryz.underlying5 ?hev ?_; (case hev => intro u_; rfl); (case hd => rfl); (case hg => rfl); (case hr => first | (go_simp; done) | (go_simp; rfl)); (case hp => exact (Reps.one (show Kd.M (Kd.int .u8) _ _ _ 76 [.int .u8 76] from rfl) (Reps.one (show Kd.M (Kd.int .u8) _ _ _ 65 [.int .u8 65] from rfl) (Reps.one (show Kd.M (Kd.int .u8) _ _ _ 82 [.int .u8 82] from rfl) (Reps.one (show Kd.M (Kd.int .u8) _ _ _ 49 [.int .u8 49] from rfl) (Reps.none _ _)))))); intro v176 w6 ho7 hb hg_ hnew_; clear hg_ hnew_; (first | rw [← Ny175.out] at ho7 | (simp only [Int.reduceToNat] at ho7; rw [← Ny175.out] at ho7)); have n0_ := Aside0.mk (Kd.Z_lower ho7 (below_size (bw_ HB))); have n1_ := Aside0.mk (below_step (bw_ HB) hb); clear HB; have HO177 := n0_; have HB := n1_; clear n0_ n1_; clear hb ho7; obtain ⟨Ao8, co8, eo8⟩ := Kd.Z_slice HO177.out; subst eo8) | ((with_reducible refine gate_callee (f := 98) rfl ?_); refine gL_ (some 14) Tryz.func98 #[.slice Ao8 y175.length co8, .int .i64 (l0.length : Int)] ?_; (with_reducible refine (spec_l10Num.callsZ k (fun k_ => some k_ = (.slice Ao8 y175.length co8 : Value).ownBlock) (.slice Ao8 y175.length co8) y175 (l0.length : Int) t178 w _ ?side1 ?side2 A4.out).mono ?_); (case side1 => repeat (first | (with_reducible first | exact HB.out | apply below_alloc | apply pw_below_drewN | apply below_drew1) | exact HB.out)); (case side2 => exact Kd.Z_tight rfl HO177.out); rintro e w9 ⟨v179, rfl, ho0, hb, hkp⟩; refine ⟨_, rfl, ?_⟩; have n0_ := Aside0.mk (Kd.R_mono (ok' := fun k_ => True) ho0 (fun k_ hk_ => trivial)); have n1_ := Aside0.mk (hb); clear HB; clear HO177; have HO180 := n0_; have HB := n1_; clear n0_ n1_; (try clear hb); (try clear hkp); (try clear ho0)))
 go_loopg [3, 4] k (fun kq v3 v4 w' => ∃ (x3_1 : List Int) (x4_1 : Int), v4 = .int .i64 x4_1 ∧ Aside0 (spec_PackTree.l0 kq l0 x3_1 x4_1 = some r) ∧ Aside0 (kq ≤ k) ∧ Aside0 (Kd.R (Kd.int .u8) 5 w' w.heap.size (fun _ => True) v3 x3_1) ∧ Aside0 (Below w.heap.size w w'))
 case atStart => exact ⟨(t178), (0), (by first | rfl | (simp; done) | (simp [*]; done)), H', ⟨Nat.le_refl _⟩, ⟨by (with_reducible repeat (first | apply Kd.R_alloc | apply Kd.R_drewN | apply Kd.R_drew)); exact HO180.out⟩, ⟨bw_ HB⟩⟩
 case round =>
  clear H'
  try clear p2
  try clear c3
  try clear c4
  try clear c8
  try clear c9
  obtain ⟨x3_1, x4_1, rfl, HA, HK1, HO_3, HB⟩ := hrel
  cases gk with
  | zero => exact absurd HA.out (by simp [spec_PackTree.l0])
  | succ k1 =>
   have H := HA.out
   clear HA
   simp only [spec_PackTree.l0] at H
   by_cases c10 : x4_1 < (l0.length : Int)
   {
   rw [if_pos c10] at H
   have c10b0 : decide (x4_1 < (l0.length : Int)) = true := decide_eq_true c10
   clear c10
   by_cases c11 : 0 ≤ x4_1
   {
   rw [if_pos c11] at H
   have c11b0 : decide (0 ≤ x4_1) = true := decide_eq_true c11
   clear c11
   obtain ⟨bq12, hbq12⟩ : ∃ b_ : Bool, b_ = ((rd_T70 l0 x4_1).f3) := ⟨_, rfl⟩
   replace H : (if bq12 = true then (if x3_1.length < 140737488355328 then ((spec_l10Text.f k1 (x3_1 ++ [(wrap64 (((rd_T70 l0 x4_1).f1) + 16)) % 256]) ((rd_T70 l0 x4_1).f0)).bind fun t187 => ((spec_l10Text.f k1 t187 ((rd_T70 l0 x4_1).f2)).bind fun t191 => (spec_PackTree.l0 k1 l0 t191 (wrap64 (x4_1 + 1))))) else (none)) else (if x3_1.length < 140737488355328 then ((spec_l10Text.f k1 (x3_1 ++ [((rd_T70 l0 x4_1).f1) % 256]) ((rd_T70 l0 x4_1).f0)).bind fun t198 => ((spec_l10Text.f k1 t198 ((rd_T70 l0 x4_1).f2)).bind fun t202 => (spec_PackTree.l0 k1 l0 t202 (wrap64 (x4_1 + 1))))) else (none))) = some r := by rw [← hbq12] at H; exact H
   have Nbq12 := Aside0.mk hbq12
   clear hbq12
   by_cases c13 : bq12 = true
   {
   subst c13
   rw [if_pos rfl] at H
   by_cases c14 : x3_1.length < 140737488355328
   {
   rw [if_pos c14] at H
   have LMc14 := Aside0.mk c14
   clear c14
   obtain ⟨y183, hy183⟩ : ∃ y_ : List Int, y_ = (x3_1 ++ [(wrap64 (((rd_T70 l0 x4_1).f1) + 16)) % 256]) := ⟨_, rfl⟩
   replace H : ((spec_l10Text.f k1 y183 ((rd_T70 l0 x4_1).f0)).bind fun t187 => ((spec_l10Text.f k1 t187 ((rd_T70 l0 x4_1).f2)).bind fun t191 => (spec_PackTree.l0 k1 l0 t191 (wrap64 (x4_1 + 1))))) = some r := by first | (rw [hy183]; with_reducible exact H) | (have H2_ := (Option.bind_some _ _).symm.trans H; rw [hy183]; with_reducible exact H2_) | (have H2_ := (Option.bind_some _ _).symm.trans H; with_reducible exact H2_) | with_reducible exact H | (rw [hy183]; exact H) | exact H
   have Ny183 := Aside0.mk hy183
   clear hy183
   replace H := Option.bind_eq_some_iff.mp H
   obtain ⟨t187, A150, H⟩ := H
   have A15 := Aside0.mk A150
   clear A150
   replace H := Option.bind_eq_some_iff.mp H
   obtain ⟨t191, A160, H⟩ := H
   have A16 := Aside0.mk A160
   clear A160
   have H' := Aside0.mk H
   clear H
   have p181 : 0 ≤ (x4_1 : Int) := dA_
   have q181 : x4_1 < (l0.length : Int) := dA_
   obtain ⟨ad181, e181, hx181_0, hx181_1, hx181_2, hx181_3⟩ := at_T70 HR0.out x4_1 p181 q181
   (try rw [← Nbq12.out] at hx181_3)
   cases e181
   replace hx181_0 := hX_ HB hx181_0
   replace hx181_1 := hX_ HB hx181_1
   replace hx181_2 := hX_ HB hx181_2
   replace hx181_3 := hX_ HB hx181_3
   replace p181 := eq_true p181
   replace q181 := eq_true q181
   have p182 : 0 ≤ (x4_1 : Int) := dA_
   have q182 : x4_1 < (l0.length : Int) := dA_
   obtain ⟨ad182, e182, hx182_0, hx182_1, hx182_2, hx182_3⟩ := at_T70 HR0.out x4_1 p182 q182
   (try rw [← Nbq12.out] at hx182_3)
   obtain rfl : ad181 = ad182 := (by injection e182)
   replace hx182_0 := hX_ HB hx182_0
   replace hx182_1 := hX_ HB hx182_1
   replace hx182_2 := hX_ HB hx182_2
   replace hx182_3 := hX_ HB hx182_3
   replace p182 := eq_true p182
   replace q182 := eq_true q182
   try go_wp2_with (first | ((with_reducible refine gate_builtin (b := .append) (xs := #[.tmp 33, .tmp 36]) rfl ?_); at_builtin; refine Kd.R_append (Kd.int .u8) (w0 := w) w.heap.size rfl (.tmp 33) (.tmp 36) 81 5 (.int .u8 0) 1 rfl Tryz.underlying81 info5 rfl (by decide) (by omega) u3 x3_1 ((wrap64 (((rd_T70 l0 x4_1).f1) + 16)) % 256) [.int .u8 ((wrap64 (((rd_T70 l0 x4_1).f1) + 16)) % 256)] (fun _ => True) (fun _ => False) rfl rfl ?aP (fun _ hk => hk.elim) ?aF ?aO ?aB ?aS ?aL ?_; (case aP => exact rfl); (case aB => exact (bw_ HB)); (case aF => exact (fun _ _ => trivial)); (case aO => exact (by (with_reducible repeat (first | apply Kd.R_alloc | apply Kd.R_drewN | apply Kd.R_drew)); exact HO_3.out)); (case aS => exact (below_size (bw_ HB))); (case aL => have := LMc14.out; omega); intro v184 w17 ho hb hg hat; rw [← Ny183.out] at ho; have n0_ := Aside0.mk (hb); have n1_ := Aside0.mk (ho); clear HB; clear HO_3; have HB := n0_; have HO185 := n1_; clear n0_ n1_; clear ho hb hg hat))
   have n0_ := Aside0.mk (Kd.R_drew HO185.out)
   have n1_ := Aside0.mk (below_drew1 HB.out)
   clear HO185
   clear HB
   have HO185 := n0_
   have HB := n1_
   clear n0_ n1_
   have p186 : 0 ≤ (x4_1 : Int) := dA_
   have q186 : x4_1 < (l0.length : Int) := dA_
   obtain ⟨ad186, e186, hx186_0, hx186_1, hx186_2, hx186_3⟩ := at_T70 HR0.out x4_1 p186 q186
   have hw186_3 := hx186_3
   (try rw [← Nbq12.out] at hw186_3)
   have hw186_2 := hx186_2
   (try rw [← Nbq12.out] at hw186_2)
   have hw186_1 := hx186_1
   (try rw [← Nbq12.out] at hw186_1)
   have hw186_0 := hx186_0
   (try rw [← Nbq12.out] at hw186_0)
   (try rw [← Nbq12.out] at hx186_3)
   obtain rfl : ad181 = ad186 := (by injection e186)
   replace hx186_0 := hX_ HB hx186_0
   replace hx186_1 := hX_ HB hx186_1
   replace hx186_2 := hX_ HB hx186_2
   replace hx186_3 := hX_ HB hx186_3
   replace p186 := eq_true p186
   replace q186 := eq_true q186
   have p190 : 0 ≤ (x4_1 : Int) := dA_
   have q190 : x4_1 < (l0.length : Int) := dA_
   obtain ⟨ad190, e190, hx190_0, hx190_1, hx190_2, hx190_3⟩ := at_T70 HR0.out x4_1 p190 q190
   have hw190_3 := hx190_3
   (try rw [← Nbq12.out] at hw190_3)
   have hw190_2 := hx190_2
   (try rw [← Nbq12.out] at hw190_2)
   have hw190_1 := hx190_1
   (try rw [← Nbq12.out] at hw190_1)
   have hw190_0 := hx190_0
   (try rw [← Nbq12.out] at hw190_0)
   (try rw [← Nbq12.out] at hx190_3)
   obtain rfl : ad181 = ad190 := (by injection e190)
   replace hx190_0 := hX_ HB hx190_0
   replace hx190_1 := hX_ HB hx190_1
   replace hx190_2 := hX_ HB hx190_2
   replace hx190_3 := hX_ HB hx190_3
   replace p190 := eq_true p190
   replace q190 := eq_true q190
   obtain ⟨Ao19, co19, eo19⟩ := Kd.R_slice HO185.out
   (first | subst eo19 | (injection eo19 with f1_ f2_ f3_; have f4_ := f1_.symm; have f5_ := f3_.symm; clear f1_ f2_ f3_; subst f4_; subst f5_))
   refine start_ (n := 14) (S := fun w' => w'.cell? (ad181.add ((x4_1).toNat * 4)) = some (.string ((rd_T70 l0 x4_1).f0)) ∧ w'.cell? ⟨(ad181.add ((x4_1).toNat * 4)).block, (ad181.add ((x4_1).toNat * 4)).off + 1, none⟩ = some (.int .i64 ((rd_T70 l0 x4_1).f1)) ∧ w'.cell? ⟨(ad181.add ((x4_1).toNat * 4)).block, (ad181.add ((x4_1).toNat * 4)).off + 2, none⟩ = some (.string ((rd_T70 l0 x4_1).f2)) ∧ w'.cell? ⟨(ad181.add ((x4_1).toNat * 4)).block, (ad181.add ((x4_1).toNat * 4)).off + 3, none⟩ = some (.bool (true)) ∧ w'.cell? (ad181.add ((x4_1).toNat * 4)) = some (.string ((rd_T70 l0 x4_1).f0)) ∧ w'.cell? ⟨(ad181.add ((x4_1).toNat * 4)).block, (ad181.add ((x4_1).toNat * 4)).off + 1, none⟩ = some (.int .i64 ((rd_T70 l0 x4_1).f1)) ∧ w'.cell? ⟨(ad181.add ((x4_1).toNat * 4)).block, (ad181.add ((x4_1).toNat * 4)).off + 2, none⟩ = some (.string ((rd_T70 l0 x4_1).f2)) ∧ w'.cell? ⟨(ad181.add ((x4_1).toNat * 4)).block, (ad181.add ((x4_1).toNat * 4)).off + 3, none⟩ = some (.bool (true))) (ds := []) (bs_ 14 0) (by kernel_rfl) rfl (by kernel_rfl) ⟨((HB.out.cell (World.block_lt_of_cell? w _ hw186_0)).trans hw186_0), ((HB.out.cell (World.block_lt_of_cell? w _ hw186_1)).trans hw186_1), ((HB.out.cell (World.block_lt_of_cell? w _ hw186_2)).trans hw186_2), ((HB.out.cell (World.block_lt_of_cell? w _ hw186_3)).trans hw186_3), ((HB.out.cell (World.block_lt_of_cell? w _ hw190_0)).trans hw190_0), ((HB.out.cell (World.block_lt_of_cell? w _ hw190_1)).trans hw190_1), ((HB.out.cell (World.block_lt_of_cell? w _ hw190_2)).trans hw190_2), ((HB.out.cell (World.block_lt_of_cell? w _ hw190_3)).trans hw190_3)⟩ (fun hHeld => ?_); refine with_tabW spec_PackTree.tab11 spec_PackTree.bits11 (fun HT_ HW_ => ?_)
   generalize w17.drew = w18 at HO185 HB hx186_0 hx186_1 hx186_2 hx186_3 hx190_0 hx190_1 hx190_2 hx190_3 hHeld ⊢
   refine pS_ 0 ?_
   refine pS_ 1 ?_
   refine pS_ 2 ?_
   refine pS_ 3 ?_
   refine pS_ 4 ?_
   refine pS_ 7 ?_
   refine pS_ 8 ?_
   refine pS_ 9 ?_
   refine pS_ 10 ?_
   refine t8_ 5 hHeld ?_
   refine t8_ 11 hHeld ?_
   refine oS_ 6 (fun K hK => ?_)
   refine gS_ Tryz.func99 #[.slice Ao19 y183.length co19, .string ((rd_T70 l0 x4_1).f0)] ?_
   with_reducible refine (spec_l10Text.calls k1 (fun k_ => some k_ = (.slice Ao19 y183.length co19 : Value).ownBlock) (.slice Ao19 y183.length co19) y183 ((rd_T70 l0 x4_1).f0) t187 w _ ?side1 ?side2 A15.out).mono ?_
   (case side1 => repeat (first | (with_reducible first | exact HB.out | apply below_alloc | apply pw_below_drewN | apply below_drew1) | exact HB.out))
   (case side2 => exact Kd.R_tight rfl HO185.out)
   rintro e w20 ⟨v188, rfl, ho0, hb, hkp⟩
   refine ⟨_, rfl, ?_⟩
   have n0_ := Aside0.mk (Kd.R_mono (ok' := fun k_ => True) ho0 (fun k_ hk_ => trivial))
   have n1_ := Aside0.mk (hb)
   clear HB
   clear HO185
   have HO189 := n0_
   have HB := n1_
   clear n0_ n1_
   (try clear hb)
   (try clear hkp)
   (try clear ho0)
   obtain ⟨Ao21, co21, eo21⟩ := Kd.R_slice HO189.out
   (first | subst eo21 | (injection eo21 with f1_ f2_ f3_; have f4_ := f1_.symm; have f5_ := f3_.symm; clear f1_ f2_ f3_; subst f4_; subst f5_))
   refine hK.out _ _ ⟨((HB.out.cell (World.block_lt_of_cell? w _ hw186_0)).trans hw186_0), ((HB.out.cell (World.block_lt_of_cell? w _ hw186_1)).trans hw186_1), ((HB.out.cell (World.block_lt_of_cell? w _ hw186_2)).trans hw186_2), ((HB.out.cell (World.block_lt_of_cell? w _ hw186_3)).trans hw186_3), ((HB.out.cell (World.block_lt_of_cell? w _ hw190_0)).trans hw190_0), ((HB.out.cell (World.block_lt_of_cell? w _ hw190_1)).trans hw190_1), ((HB.out.cell (World.block_lt_of_cell? w _ hw190_2)).trans hw190_2), ((HB.out.cell (World.block_lt_of_cell? w _ hw190_3)).trans hw190_3)⟩ (fun hHeld => ?_)
   clear hK K
   refine nS_ 44 ?_
   refine oS_ 12 (fun K hK => ?_)
   refine gS_ Tryz.func99 #[.slice Ao21 t187.length co21, .string ((rd_T70 l0 x4_1).f2)] ?_
   with_reducible refine (spec_l10Text.calls k1 (fun k_ => some k_ = (.slice Ao21 t187.length co21 : Value).ownBlock) (.slice Ao21 t187.length co21) t187 ((rd_T70 l0 x4_1).f2) t191 w _ ?side1 ?side2 A16.out).mono ?_
   (case side1 => repeat (first | (with_reducible first | exact HB.out | apply below_alloc | apply pw_below_drewN | apply below_drew1) | exact HB.out))
   (case side2 => exact Kd.R_tight rfl HO189.out)
   rintro e w22 ⟨v192, rfl, ho0, hb, hkp⟩
   refine ⟨_, rfl, ?_⟩
   have n0_ := Aside0.mk (Kd.R_mono (ok' := fun k_ => True) ho0 (fun k_ hk_ => trivial))
   have n1_ := Aside0.mk (hb)
   clear HB
   clear HO189
   have HO193 := n0_
   have HB := n1_
   clear n0_ n1_
   (try clear hb)
   (try clear hkp)
   (try clear ho0)
   refine hK.out _ _ ⟨((HB.out.cell (World.block_lt_of_cell? w _ hw186_0)).trans hw186_0), ((HB.out.cell (World.block_lt_of_cell? w _ hw186_1)).trans hw186_1), ((HB.out.cell (World.block_lt_of_cell? w _ hw186_2)).trans hw186_2), ((HB.out.cell (World.block_lt_of_cell? w _ hw186_3)).trans hw186_3), ((HB.out.cell (World.block_lt_of_cell? w _ hw190_0)).trans hw190_0), ((HB.out.cell (World.block_lt_of_cell? w _ hw190_1)).trans hw190_1), ((HB.out.cell (World.block_lt_of_cell? w _ hw190_2)).trans hw190_2), ((HB.out.cell (World.block_lt_of_cell? w _ hw190_3)).trans hw190_3)⟩ (fun hHeld => ?_)
   clear hK K
   refine nS_ 50 ?_
   refine pS_ 13 ?_
   refine done_ (done_of HT_.out (by kernel_rfl)) ?_
   try go_wp2
   go_roundg k1
   case measure => have := HK1.out; omega
   case rel => exact ⟨(t191), (wrap64 (x4_1 + 1)), (by first | rfl | (simp; done) | (simp [*]; done)), H', ⟨by have := HK1.out; omega⟩, ⟨by (with_reducible repeat (first | apply Kd.R_alloc | apply Kd.R_drewN | apply Kd.R_drew)); exact HO193.out⟩, ⟨bw_ HB⟩⟩}
   {
   rw [if_neg c14] at H
   exact absurd H (by simp)}}
   {
   replace c13 := Bool.eq_false_iff.mpr c13
   subst c13
   rw [if_neg (show ¬ (false = true) by decide)] at H
   by_cases c23 : x3_1.length < 140737488355328
   {
   rw [if_pos c23] at H
   have LMc23 := Aside0.mk c23
   clear c23
   obtain ⟨y194, hy194⟩ : ∃ y_ : List Int, y_ = (x3_1 ++ [((rd_T70 l0 x4_1).f1) % 256]) := ⟨_, rfl⟩
   replace H : ((spec_l10Text.f k1 y194 ((rd_T70 l0 x4_1).f0)).bind fun t198 => ((spec_l10Text.f k1 t198 ((rd_T70 l0 x4_1).f2)).bind fun t202 => (spec_PackTree.l0 k1 l0 t202 (wrap64 (x4_1 + 1))))) = some r := by first | (rw [hy194]; with_reducible exact H) | (have H2_ := (Option.bind_some _ _).symm.trans H; rw [hy194]; with_reducible exact H2_) | (have H2_ := (Option.bind_some _ _).symm.trans H; with_reducible exact H2_) | with_reducible exact H | (rw [hy194]; exact H) | exact H
   have Ny194 := Aside0.mk hy194
   clear hy194
   replace H := Option.bind_eq_some_iff.mp H
   obtain ⟨t198, A240, H⟩ := H
   have A24 := Aside0.mk A240
   clear A240
   replace H := Option.bind_eq_some_iff.mp H
   obtain ⟨t202, A250, H⟩ := H
   have A25 := Aside0.mk A250
   clear A250
   have H' := Aside0.mk H
   clear H
   have p181 : 0 ≤ (x4_1 : Int) := dA_
   have q181 : x4_1 < (l0.length : Int) := dA_
   obtain ⟨ad181, e181, hx181_0, hx181_1, hx181_2, hx181_3⟩ := at_T70 HR0.out x4_1 p181 q181
   (try rw [← Nbq12.out] at hx181_3)
   cases e181
   replace hx181_0 := hX_ HB hx181_0
   replace hx181_1 := hX_ HB hx181_1
   replace hx181_2 := hX_ HB hx181_2
   replace hx181_3 := hX_ HB hx181_3
   replace p181 := eq_true p181
   replace q181 := eq_true q181
   have p182 : 0 ≤ (x4_1 : Int) := dA_
   have q182 : x4_1 < (l0.length : Int) := dA_
   obtain ⟨ad182, e182, hx182_0, hx182_1, hx182_2, hx182_3⟩ := at_T70 HR0.out x4_1 p182 q182
   (try rw [← Nbq12.out] at hx182_3)
   obtain rfl : ad181 = ad182 := (by injection e182)
   replace hx182_0 := hX_ HB hx182_0
   replace hx182_1 := hX_ HB hx182_1
   replace hx182_2 := hX_ HB hx182_2
   replace hx182_3 := hX_ HB hx182_3
   replace p182 := eq_true p182
   replace q182 := eq_true q182
   try go_wp2_with (first | ((with_reducible refine gate_builtin (b := .append) (xs := #[.tmp 33, .tmp 36]) rfl ?_); at_builtin; refine Kd.R_append (Kd.int .u8) (w0 := w) w.heap.size rfl (.tmp 33) (.tmp 36) 81 5 (.int .u8 0) 1 rfl Tryz.underlying81 info5 rfl (by decide) (by omega) u3 x3_1 (((rd_T70 l0 x4_1).f1) % 256) [.int .u8 (((rd_T70 l0 x4_1).f1) % 256)] (fun _ => True) (fun _ => False) rfl rfl ?aP (fun _ hk => hk.elim) ?aF ?aO ?aB ?aS ?aL ?_; (case aP => exact rfl); (case aB => exact (bw_ HB)); (case aF => exact (fun _ _ => trivial)); (case aO => exact (by (with_reducible repeat (first | apply Kd.R_alloc | apply Kd.R_drewN | apply Kd.R_drew)); exact HO_3.out)); (case aS => exact (below_size (bw_ HB))); (case aL => have := LMc23.out; omega); intro v195 w26 ho hb hg hat; rw [← Ny194.out] at ho; have n0_ := Aside0.mk (hb); have n1_ := Aside0.mk (ho); clear HB; clear HO_3; have HB := n0_; have HO196 := n1_; clear n0_ n1_; clear ho hb hg hat))
   have n0_ := Aside0.mk (Kd.R_drew HO196.out)
   have n1_ := Aside0.mk (below_drew1 HB.out)
   clear HO196
   clear HB
   have HO196 := n0_
   have HB := n1_
   clear n0_ n1_
   have p197 : 0 ≤ (x4_1 : Int) := dA_
   have q197 : x4_1 < (l0.length : Int) := dA_
   obtain ⟨ad197, e197, hx197_0, hx197_1, hx197_2, hx197_3⟩ := at_T70 HR0.out x4_1 p197 q197
   have hw197_3 := hx197_3
   (try rw [← Nbq12.out] at hw197_3)
   have hw197_2 := hx197_2
   (try rw [← Nbq12.out] at hw197_2)
   have hw197_1 := hx197_1
   (try rw [← Nbq12.out] at hw197_1)
   have hw197_0 := hx197_0
   (try rw [← Nbq12.out] at hw197_0)
   (try rw [← Nbq12.out] at hx197_3)
   obtain rfl : ad181 = ad197 := (by injection e197)
   replace hx197_0 := hX_ HB hx197_0
   replace hx197_1 := hX_ HB hx197_1
   replace hx197_2 := hX_ HB hx197_2
   replace hx197_3 := hX_ HB hx197_3
   replace p197 := eq_true p197
   replace q197 := eq_true q197
   have p201 : 0 ≤ (x4_1 : Int) := dA_
   have q201 : x4_1 < (l0.length : Int) := dA_
   obtain ⟨ad201, e201, hx201_0, hx201_1, hx201_2, hx201_3⟩ := at_T70 HR0.out x4_1 p201 q201
   have hw201_3 := hx201_3
   (try rw [← Nbq12.out] at hw201_3)
   have hw201_2 := hx201_2
   (try rw [← Nbq12.out] at hw201_2)
   have hw201_1 := hx201_1
   (try rw [← Nbq12.out] at hw201_1)
   have hw201_0 := hx201_0
   (try rw [← Nbq12.out] at hw201_0)
   (try rw [← Nbq12.out] at hx201_3)
   obtain rfl : ad181 = ad201 := (by injection e201)
   replace hx201_0 := hX_ HB hx201_0
   replace hx201_1 := hX_ HB hx201_1
   replace hx201_2 := hX_ HB hx201_2
   replace hx201_3 := hX_ HB hx201_3
   replace p201 := eq_true p201
   replace q201 := eq_true q201
   obtain ⟨Ao28, co28, eo28⟩ := Kd.R_slice HO196.out
   (first | subst eo28 | (injection eo28 with f1_ f2_ f3_; have f4_ := f1_.symm; have f5_ := f3_.symm; clear f1_ f2_ f3_; subst f4_; subst f5_))
   refine start_ (n := 14) (S := fun w' => w'.cell? (ad181.add ((x4_1).toNat * 4)) = some (.string ((rd_T70 l0 x4_1).f0)) ∧ w'.cell? ⟨(ad181.add ((x4_1).toNat * 4)).block, (ad181.add ((x4_1).toNat * 4)).off + 1, none⟩ = some (.int .i64 ((rd_T70 l0 x4_1).f1)) ∧ w'.cell? ⟨(ad181.add ((x4_1).toNat * 4)).block, (ad181.add ((x4_1).toNat * 4)).off + 2, none⟩ = some (.string ((rd_T70 l0 x4_1).f2)) ∧ w'.cell? ⟨(ad181.add ((x4_1).toNat * 4)).block, (ad181.add ((x4_1).toNat * 4)).off + 3, none⟩ = some (.bool (false)) ∧ w'.cell? (ad181.add ((x4_1).toNat * 4)) = some (.string ((rd_T70 l0 x4_1).f0)) ∧ w'.cell? ⟨(ad181.add ((x4_1).toNat * 4)).block, (ad181.add ((x4_1).toNat * 4)).off + 1, none⟩ = some (.int .i64 ((rd_T70 l0 x4_1).f1)) ∧ w'.cell? ⟨(ad181.add ((x4_1).toNat * 4)).block, (ad181.add ((x4_1).toNat * 4)).off + 2, none⟩ = some (.string ((rd_T70 l0 x4_1).f2)) ∧ w'.cell? ⟨(ad181.add ((x4_1).toNat * 4)).block, (ad181.add ((x4_1).toNat * 4)).off + 3, none⟩ = some (.bool (false))) (ds := []) (bs_ 14 0) (by kernel_rfl) rfl (by kernel_rfl) ⟨((HB.out.cell (World.block_lt_of_cell? w _ hw197_0)).trans hw197_0), ((HB.out.cell (World.block_lt_of_cell? w _ hw197_1)).trans hw197_1), ((HB.out.cell (World.block_lt_of_cell? w _ hw197_2)).trans hw197_2), ((HB.out.cell (World.block_lt_of_cell? w _ hw197_3)).trans hw197_3), ((HB.out.cell (World.block_lt_of_cell? w _ hw201_0)).trans hw201_0), ((HB.out.cell (World.block_lt_of_cell? w _ hw201_1)).trans hw201_1), ((HB.out.cell (World.block_lt_of_cell? w _ hw201_2)).trans hw201_2), ((HB.out.cell (World.block_lt_of_cell? w _ hw201_3)).trans hw201_3)⟩ (fun hHeld => ?_); refine with_tabW spec_PackTree.tab11 spec_PackTree.bits11 (fun HT_ HW_ => ?_)
   generalize w26.drew = w27 at HO196 HB hx197_0 hx197_1 hx197_2 hx197_3 hx201_0 hx201_1 hx201_2 hx201_3 hHeld ⊢
   refine pS_ 0 ?_
   refine pS_ 1 ?_
   refine pS_ 2 ?_
   refine pS_ 3 ?_
   refine pS_ 4 ?_
   refine pS_ 7 ?_
   refine pS_ 8 ?_
   refine pS_ 9 ?_
   refine pS_ 10 ?_
   refine t8_ 5 hHeld ?_
   refine t8_ 11 hHeld ?_
   refine oS_ 6 (fun K hK => ?_)
   refine gS_ Tryz.func99 #[.slice Ao28 y194.length co28, .string ((rd_T70 l0 x4_1).f0)] ?_
   with_reducible refine (spec_l10Text.calls k1 (fun k_ => some k_ = (.slice Ao28 y194.length co28 : Value).ownBlock) (.slice Ao28 y194.length co28) y194 ((rd_T70 l0 x4_1).f0) t198 w _ ?side1 ?side2 A24.out).mono ?_
   (case side1 => repeat (first | (with_reducible first | exact HB.out | apply below_alloc | apply pw_below_drewN | apply below_drew1) | exact HB.out))
   (case side2 => exact Kd.R_tight rfl HO196.out)
   rintro e w29 ⟨v199, rfl, ho0, hb, hkp⟩
   refine ⟨_, rfl, ?_⟩
   have n0_ := Aside0.mk (Kd.R_mono (ok' := fun k_ => True) ho0 (fun k_ hk_ => trivial))
   have n1_ := Aside0.mk (hb)
   clear HB
   clear HO196
   have HO200 := n0_
   have HB := n1_
   clear n0_ n1_
   (try clear hb)
   (try clear hkp)
   (try clear ho0)
   obtain ⟨Ao30, co30, eo30⟩ := Kd.R_slice HO200.out
   (first | subst eo30 | (injection eo30 with f1_ f2_ f3_; have f4_ := f1_.symm; have f5_ := f3_.symm; clear f1_ f2_ f3_; subst f4_; subst f5_))
   refine hK.out _ _ ⟨((HB.out.cell (World.block_lt_of_cell? w _ hw197_0)).trans hw197_0), ((HB.out.cell (World.block_lt_of_cell? w _ hw197_1)).trans hw197_1), ((HB.out.cell (World.block_lt_of_cell? w _ hw197_2)).trans hw197_2), ((HB.out.cell (World.block_lt_of_cell? w _ hw197_3)).trans hw197_3), ((HB.out.cell (World.block_lt_of_cell? w _ hw201_0)).trans hw201_0), ((HB.out.cell (World.block_lt_of_cell? w _ hw201_1)).trans hw201_1), ((HB.out.cell (World.block_lt_of_cell? w _ hw201_2)).trans hw201_2), ((HB.out.cell (World.block_lt_of_cell? w _ hw201_3)).trans hw201_3)⟩ (fun hHeld => ?_)
   clear hK K
   refine nS_ 44 ?_
   refine oS_ 12 (fun K hK => ?_)
   refine gS_ Tryz.func99 #[.slice Ao30 t198.length co30, .string ((rd_T70 l0 x4_1).f2)] ?_
   with_reducible refine (spec_l10Text.calls k1 (fun k_ => some k_ = (.slice Ao30 t198.length co30 : Value).ownBlock) (.slice Ao30 t198.length co30) t198 ((rd_T70 l0 x4_1).f2) t202 w _ ?side1 ?side2 A25.out).mono ?_
   (case side1 => repeat (first | (with_reducible first | exact HB.out | apply below_alloc | apply pw_below_drewN | apply below_drew1) | exact HB.out))
   (case side2 => exact Kd.R_tight rfl HO200.out)
   rintro e w31 ⟨v203, rfl, ho0, hb, hkp⟩
   refine ⟨_, rfl, ?_⟩
   have n0_ := Aside0.mk (Kd.R_mono (ok' := fun k_ => True) ho0 (fun k_ hk_ => trivial))
   have n1_ := Aside0.mk (hb)
   clear HB
   clear HO200
   have HO204 := n0_
   have HB := n1_
   clear n0_ n1_
   (try clear hb)
   (try clear hkp)
   (try clear ho0)
   refine hK.out _ _ ⟨((HB.out.cell (World.block_lt_of_cell? w _ hw197_0)).trans hw197_0), ((HB.out.cell (World.block_lt_of_cell? w _ hw197_1)).trans hw197_1), ((HB.out.cell (World.block_lt_of_cell? w _ hw197_2)).trans hw197_2), ((HB.out.cell (World.block_lt_of_cell? w _ hw197_3)).trans hw197_3), ((HB.out.cell (World.block_lt_of_cell? w _ hw201_0)).trans hw201_0), ((HB.out.cell (World.block_lt_of_cell? w _ hw201_1)).trans hw201_1), ((HB.out.cell (World.block_lt_of_cell? w _ hw201_2)).trans hw201_2), ((HB.out.cell (World.block_lt_of_cell? w _ hw201_3)).trans hw201_3)⟩ (fun hHeld => ?_)
   clear hK K
   refine nS_ 50 ?_
   refine pS_ 13 ?_
   refine done_ (done_of HT_.out (by kernel_rfl)) ?_
   try go_wp2
   go_roundg k1
   case measure => have := HK1.out; omega
   case rel => exact ⟨(t202), (wrap64 (x4_1 + 1)), (by first | rfl | (simp; done) | (simp [*]; done)), H', ⟨by have := HK1.out; omega⟩, ⟨by (with_reducible repeat (first | apply Kd.R_alloc | apply Kd.R_drewN | apply Kd.R_drew)); exact HO204.out⟩, ⟨bw_ HB⟩⟩}
   {
   rw [if_neg c23] at H
   exact absurd H (by simp)}}}
   {
   rw [if_neg c11] at H
   exact absurd H (by simp)}}
   {
   rw [if_neg c10] at H
   have c10b0 : decide (x4_1 < (l0.length : Int)) = false := decide_eq_false c10
   clear c10
   obtain rfl := Option.some.inj H
   go_wp2
   go_ret
   exact ⟨_, eR_, by (with_reducible repeat (first | apply Kd.R_alloc | apply Kd.R_drewN | apply Kd.R_drew)); exact HO_3.out, bw_ HB⟩}}
 {
 replace c3 := Bool.eq_false_iff.mpr c3
 subst c3
 rw [if_neg (show ¬ (false = true) by decide)] at H
 obtain ⟨y172, hy172⟩ : ∃ y_ : List Int, y_ = (([] : List Int)) := ⟨_, rfl⟩
 replace H : (some y172) = some r := by first | (rw [hy172]; with_reducible exact H) | (have H2_ := (Option.bind_some _ _).symm.trans H; rw [hy172]; with_reducible exact H2_) | (have H2_ := (Option.bind_some _ _).symm.trans H; with_reducible exact H2_) | with_reducible exact H | (rw [hy172]; exact H) | exact H
 have Ny172 := Aside0.mk hy172
 clear hy172
 obtain rfl := Option.some.inj H
 go_enter Tryz.func83, Tryz.ntmps83
 go_wp2_with (first | ((with_reducible refine gate_callee (f := 44) rfl ?_); refine gL_ (some 7) Tryz.func44 #[.slice A0 l0.length c0] ?_; (with_reducible refine (spec_TreeOk.calls k _ _ l0 false _ ?side1 ?side2 A2.out).mono ?_); (case side1 => repeat (first | exact HR0.out | (with_reducible refine Kd.C_alloc ?_ _) | (with_reducible refine Kd.C_drewN ?_ _) | (with_reducible refine Kd.C_drew ?_))); (case side2 => exact HC0.out); rintro e w32 ⟨rfl, hb⟩; refine ⟨_, rfl, ?_⟩; have n0_ := Aside0.mk (below_step (bw_ HB) hb); clear HB; have HB := n0_; clear n0_; (try clear hb); (try clear hb2); (try clear hk); (try clear hi)) | ((with_reducible refine gate_dst (N := 9) rfl ?_); refine Kd.R_lit (Kd.int .u8) _ 5 ?hg (N := 9) ?hd (xs := ([] : List Int)) (inner := []) (ok := fun _ => True) (okp := fun _ => True) ?hr ?hp (fun _ hk => hk) trivial (Below.refl _ _) (Nat.le_refl _) (by simp) ?_; (case hd => rfl); (case hg => rfl); (case hr => first | (go_simp; done) | (go_simp; rfl)); (case hp => exact (Reps.none _ _)); intro v173 w33 ho34 hb hg_ hnew_; clear hg_ hnew_; (first | rw [← Ny172.out] at ho34 | (simp only [Int.reduceToNat] at ho34; rw [← Ny172.out] at ho34)); have n0_ := Aside0.mk (Kd.R_lower ho34 (below_size (bw_ HB))); have n1_ := Aside0.mk (below_step (bw_ HB) hb); clear HB; have HO174 := n0_; have HB := n1_; clear n0_ n1_; clear hb ho34))
 go_ret
 exact ⟨_, eR_, by (with_reducible repeat (first | apply Kd.R_alloc | apply Kd.R_drewN | apply Kd.R_drew)); exact HO174.out, bw_ HB⟩
}
end Go.Proofs.YtkhhkpjeafknpaaGreatDoor.P
end

section
namespace Go.Proofs.YtkhhkpjeafknpaaGreatDoor.P
open Go.RowKit Go.Proofs.YtkhhkpjeafknpaaGreatDoorW.PrintWords Go.Proofs.YtkhhkpjeafknpaaGreatDoorW.PrintLast Go.Proofs.YtkhhkpjeafknpaaGreatDoorW.PrintMore Go.Proofs.YtkhhkpjeafknpaaGreatDoorM
attribute [local go_sem] max2_int min2_int max_two min_two max_three min_three max_four min_four
set_option linter.unusedVariables false
set_option linter.unusedSimpArgs false
def impl_sameTexts.l0 : Nat → List ByteArray → List ByteArray → Int → Int → Option (Bool)
 | 0, _, _, _, _ => none
 | k + 1, x0, x1, x12, x13 => if x13 < x12 then (if 0 ≤ x13 then (if x13 < (x0.length : Int) then (if x13 < (x1.length : Int) then (if (rdOf ByteArray.empty x0 x13).toList = (rdOf ByteArray.empty x1 x13).toList then (impl_sameTexts.l0 k x0 x1 x12 (wrap64 (x13 + 1))) else (some false)) else (none)) else (none)) else (none)) else (some true)
def impl_sameTexts.f (k : Nat) (l0 : List ByteArray) (l1 : List ByteArray) : Option (Bool) := if (l0.length : Int) = (l1.length : Int) then (impl_sameTexts.l0 k l0 l1 (l0.length : Int) 0) else (some false)
theorem impl_sameTexts.mono_l : ∀ k, (∀ y0 y1 y2 y3, LeO (impl_sameTexts.l0 k y0 y1 y2 y3) (impl_sameTexts.l0 (k + 1) y0 y1 y2 y3))
 | 0 => fun _ _ _ _ r h => by simp [impl_sameTexts.l0] at h
 | k + 1 => by
  have ih0 := impl_sameTexts.mono_l k
  {
  intro y0 y1 y2 y3
  unfold impl_sameTexts.l0
  repeat' first
  | (with_reducible exact ih0 _ _ _ _)
  | (with_reducible exact LeO.refl _)
  | (with_reducible exact LeO.none _)
  | (with_reducible refine LeO.ite ?_ ?_)
  | (with_reducible refine LeO.bind ?_ (fun _ => ?_))
  | exact ih0 _ _ _ _
  | exact LeO.none _
  | refine LeO.ite ?_ ?_
  | refine LeO.bind ?_ (fun _ => ?_)}
theorem impl_sameTexts.mono : ∀ a0 a1 k, LeO (impl_sameTexts.f k a0 a1) (impl_sameTexts.f (k + 1) a0 a1) := by
 intro a0 a1 k
 have ih0 := impl_sameTexts.mono_l k
 unfold impl_sameTexts.f
 repeat' first
  | (with_reducible exact ih0 _ _ _ _)
  | (with_reducible exact LeO.refl _)
  | (with_reducible exact LeO.none _)
  | (with_reducible refine LeO.ite ?_ ?_)
  | (with_reducible refine LeO.bind ?_ (fun _ => ?_))
  | exact ih0 _ _ _ _
  | exact LeO.none _
  | refine LeO.ite ?_ ?_
  | refine LeO.bind ?_ (fun _ => ?_)
set_option maxHeartbeats 8000000 in
set_option maxRecDepth 100000 in
theorem impl_sameTexts.calls (k : Nat) (A0 : Option Addr) (c0 : Nat) (l0 : List ByteArray) (A1 : Option Addr) (c1 : Nat) (l1 : List ByteArray) (r : Bool) (w : World) (hr0 : Kd.C Kd.string w A0 l0.length l0) (hc0 : l0.length ≤ c0) (hr1 : Kd.C Kd.string w A1 l1.length l1) (hc1 : l1.length ≤ c1) (h : impl_sameTexts.f k l0 l1 = some r) :
 Calls Tryz.prog 64 #[.slice A0 l0.length c0, .slice A1 l1.length c1] w fun e w' => e = .returned (.bool r) ∧ Drawn0 w w' := by
 have HR0 := Aside0.mk hr0
 have HC0 := Aside0.mk hc0
 clear hr0 hc0
 have HR1 := Aside0.mk hr1
 have HC1 := Aside0.mk hc1
 clear hr1 hc1
 have H : (if (l0.length : Int) = (l1.length : Int) then (impl_sameTexts.l0 k l0 l1 (l0.length : Int) 0) else (some false)) = some r := h
 clear h
 by_cases c3 : (l0.length : Int) = (l1.length : Int)
 {
 rw [if_pos c3] at H
 have c3b0 : ((l0.length : Int) == (l1.length : Int)) = true := beq_iff_eq.mpr c3
 have c3b1 : ((l0.length : Int) != (l1.length : Int)) = false := bne_eq_false_iff_eq.mpr c3
 have c3b2 : (l0.length == l1.length) = true := by first | simpa using c3 | (simp at c3 ⊢; omega)
 clear c3
 have H' := Aside0.mk H
 clear H
 go_enter Tryz.func64, Tryz.ntmps64
 go_wp2
 repeat (go_quiet (fail); try go_wp2)
 go_loopg [13] k (fun kq v13 w' => ∃ (x13_1 : Int), v13 = .int .i64 x13_1 ∧ Aside0 (impl_sameTexts.l0 kq l0 l1 (l0.length : Int) x13_1 = some r) ∧ Aside0 (kq ≤ k) ∧ Drawn0 w w')
 case atStart => exact ⟨(0), (by first | rfl | (simp; done) | (simp [*]; done)), H', ⟨Nat.le_refl _⟩, dR_⟩
 case round =>
  clear H'
  try clear c1
  try clear p2
  try clear c3
  try clear c3b0
  try clear c3b1
  try clear c3b2
  obtain ⟨x13_1, rfl, HA, HK1, ⟨m1, rfl⟩⟩ := hrel
  cases gk with
  | zero => exact absurd HA.out (by simp [impl_sameTexts.l0])
  | succ k1 =>
   have H := HA.out
   clear HA
   simp only [impl_sameTexts.l0] at H
   by_cases c4 : x13_1 < (l0.length : Int)
   {
   rw [if_pos c4] at H
   have c4b0 : decide (x13_1 < (l0.length : Int)) = true := decide_eq_true c4
   clear c4
   by_cases c5 : 0 ≤ x13_1
   {
   rw [if_pos c5] at H
   have c5b0 : decide (0 ≤ x13_1) = true := decide_eq_true c5
   clear c5
   by_cases c6 : x13_1 < (l0.length : Int)
   {
   rw [if_pos c6] at H
   have c6b0 : decide (x13_1 < (l0.length : Int)) = true := decide_eq_true c6
   clear c6
   by_cases c7 : x13_1 < (l1.length : Int)
   {
   rw [if_pos c7] at H
   have c7b0 : decide (x13_1 < (l1.length : Int)) = true := decide_eq_true c7
   clear c7
   by_cases c8 : (rdOf ByteArray.empty l0 x13_1).toList = (rdOf ByteArray.empty l1 x13_1).toList
   {
   rw [if_pos c8] at H
   have c8b0 : ((rdOf ByteArray.empty l0 x13_1).toList == (rdOf ByteArray.empty l1 x13_1).toList) = true := beq_iff_eq.mpr c8
   have c8b1 : ((rdOf ByteArray.empty l0 x13_1).toList != (rdOf ByteArray.empty l1 x13_1).toList) = false := bne_eq_false_iff_eq.mpr c8
   clear c8
   have H' := Aside0.mk H
   clear H
   have p433 : 0 ≤ (x13_1 : Int) := dA_
   have q433 : x13_1 < (l0.length : Int) := dA_
   obtain ⟨ad433, e433, hx433_0⟩ := Kd.at_string HR0.out x13_1 p433 q433
   cases e433
   replace p433 := eq_true p433
   replace q433 := eq_true q433
   have p434 : 0 ≤ (x13_1 : Int) := dA_
   have q434 : x13_1 < (l1.length : Int) := dA_
   obtain ⟨ad434, e434, hx434_0⟩ := Kd.at_string HR1.out x13_1 p434 q434
   cases e434
   replace p434 := eq_true p434
   replace q434 := eq_true q434
   go_wp2
   repeat (go_quiet (fail); try go_wp2)
   go_roundg k1
   case measure => have := HK1.out; omega
   case rel => exact ⟨(wrap64 (x13_1 + 1)), (by first | rfl | (simp; done) | (simp [*]; done)), H', ⟨by have := HK1.out; omega⟩, dR_⟩}
   {
   rw [if_neg c8] at H
   have c8b0 : ((rdOf ByteArray.empty l0 x13_1).toList == (rdOf ByteArray.empty l1 x13_1).toList) = false := beq_eq_false_iff_ne.mpr c8
   have c8b1 : ((rdOf ByteArray.empty l0 x13_1).toList != (rdOf ByteArray.empty l1 x13_1).toList) = true := bne_iff_ne.mpr c8
   obtain rfl := Option.some.inj H
   have p433 : 0 ≤ (x13_1 : Int) := dA_
   have q433 : x13_1 < (l0.length : Int) := dA_
   obtain ⟨ad433, e433, hx433_0⟩ := Kd.at_string HR0.out x13_1 p433 q433
   cases e433
   replace p433 := eq_true p433
   replace q433 := eq_true q433
   have p434 : 0 ≤ (x13_1 : Int) := dA_
   have q434 : x13_1 < (l1.length : Int) := dA_
   obtain ⟨ad434, e434, hx434_0⟩ := Kd.at_string HR1.out x13_1 p434 q434
   cases e434
   replace p434 := eq_true p434
   replace q434 := eq_true q434
   go_wp2
   repeat (go_quiet (fail); try go_wp2)
   go_ret
   exact ⟨eS_, dR_⟩}}
   {
   rw [if_neg c7] at H
   exact absurd H (by simp)}}
   {
   rw [if_neg c6] at H
   exact absurd H (by simp)}}
   {
   rw [if_neg c5] at H
   exact absurd H (by simp)}}
   {
   rw [if_neg c4] at H
   have c4b0 : decide (x13_1 < (l0.length : Int)) = false := decide_eq_false c4
   clear c4
   obtain rfl := Option.some.inj H
   go_wp2
   repeat (go_quiet (fail); try go_wp2)
   go_ret
   exact ⟨eS_, dR_⟩}}
 {
 rw [if_neg c3] at H
 have c3b0 : ((l0.length : Int) == (l1.length : Int)) = false := beq_eq_false_iff_ne.mpr c3
 have c3b1 : ((l0.length : Int) != (l1.length : Int)) = true := bne_iff_ne.mpr c3
 have c3b2 : (l0.length == l1.length) = false := by first | simpa using c3 | (simp at c3 ⊢; omega)
 obtain rfl := Option.some.inj H
 go_enter Tryz.func64, Tryz.ntmps64
 go_wp2
 repeat (go_quiet (fail); try go_wp2)
 go_ret
 exact ⟨eS_, dR_⟩
}
end Go.Proofs.YtkhhkpjeafknpaaGreatDoor.P
end

section
namespace Go.Proofs.YtkhhkpjeafknpaaGreatDoor.P
open Go.RowKit Go.Proofs.YtkhhkpjeafknpaaGreatDoorW.PrintWords Go.Proofs.YtkhhkpjeafknpaaGreatDoorW.PrintLast Go.Proofs.YtkhhkpjeafknpaaGreatDoorW.PrintMore Go.Proofs.YtkhhkpjeafknpaaGreatDoorM
attribute [local go_sem] max2_int min2_int max_two min_two max_three min_three max_four min_four
set_option linter.unusedVariables false
set_option linter.unusedSimpArgs false
def impl_itemOk.f (k : Nat) (a0_0 : ByteArray) (a0_1 : ByteArray) (l0_2 : List ByteArray) (a0_3 : ByteArray) (l0_4 : List (S70)) (l1 : List ByteArray) : Option (Bool) := (impl_AddressOk.f k a0_0).bind fun t436 => (if t436 = true then ((impl_TreeOk.f k l0_4).bind fun t437 => (if t437 = true then ((impl_TreeSum.f k l0_4).bind fun t438 => (if a0_1.toList = t438.toList then ((impl_RefsIn.f k l0_4 l1).bind fun t439 => ((impl_sameTexts.f k l0_2 t439).bind fun t442 => (if t442 = true then (if a0_3.toList = ([] : List UInt8) then (some true) else ((impl_AddressOk.f k a0_3).bind fun t443 => (some t443))) else (some false)))) else (some false))) else (some false))) else (some false))
theorem impl_itemOk.mono : ∀ a0 a1 a2 a3 a4 a5 k, LeO (impl_itemOk.f k a0 a1 a2 a3 a4 a5) (impl_itemOk.f (k + 1) a0 a1 a2 a3 a4 a5) := by
 intro a0 a1 a2 a3 a4 a5 k
 unfold impl_itemOk.f
 repeat' first
  | (with_reducible exact impl_AddressOk.mono _ _)
  | (with_reducible exact impl_RefsIn.mono _ _ _)
  | (with_reducible exact impl_TreeOk.mono _ _)
  | (with_reducible exact impl_TreeSum.mono _ _)
  | (with_reducible exact impl_sameTexts.mono _ _ _)
  | (with_reducible exact LeO.refl _)
  | (with_reducible exact LeO.none _)
  | (with_reducible refine LeO.ite ?_ ?_)
  | (with_reducible refine LeO.bind ?_ (fun _ => ?_))
  | exact impl_AddressOk.mono _ _
  | exact impl_RefsIn.mono _ _ _
  | exact impl_TreeOk.mono _ _
  | exact impl_TreeSum.mono _ _
  | exact impl_sameTexts.mono _ _ _
  | exact LeO.none _
  | refine LeO.ite ?_ ?_
  | refine LeO.bind ?_ (fun _ => ?_)
def impl_itemOk.T1 : Bool × List (List Nat × List Nat) := (true, [([], []), ([0], [0]), ([1], [1]), ([2, 2], [2]), ([3], [3]), ([4, 3], [3, 4]), ([5, 3, 3], [3, 5]), ([3, 6], [3, 6]), ([7, 6], [7]), ([8], [8]), ([9, 8], [8, 9]), ([8], [8]), ([11, 8], [8, 11]), ([12, 8, 8], [8, 12]), ([10, 13, 8], [8, 10, 13]), ([8, 14], [8, 14]), ([15, 13], [15]), ([16], [16]), ([17, 16], [16, 17]), ([16], [16]), ([19, 16], [16, 19]), ([16], [16]), ([20, 21, 16, 16], [16, 20, 21]), ([18, 22, 22, 16], [16, 18, 22]), ([16, 23], [16, 23]), ([24, 23], [24]), ([25], [25]), ([26, 25], [25, 26]), ([27, 25], [25, 27]), ([28, 25, 25], [25, 28]), ([29], [29]), ([30, 29], [29, 30]), ([31, 29, 29], [29, 31]), ([29, 32, 25], [25, 29, 32]), ([25, 33], [25, 33]), ([34, 32, 0, 1, 2, 3, 4, 5, 6, 7, 8, 9, 10, 11, 12, 13, 14, 15, 16, 17, 18, 19, 20, 21, 22, 23, 24, 25, 26, 27, 28, 29, 30, 31, 32, 33, 34], [34])])
def impl_itemOk.B1 : List Nat := [0, 1, 3, 7, 15, 31, 63, 127, 255, 511, 1023, 511, 2559, 6655, 16383, 32767, 65535, 131071, 262143, 131071, 655359, 131071, 3801087, 8388607, 16777215, 33554431, 67108863, 134217727, 268435455, 536870911, 1073741823, 2147483647, 4294967295, 8589934591, 17179869183, 34359738367]
theorem impl_itemOk.tab1 : rtab .any (opsOf Tryz.f35 1) = impl_itemOk.T1 := by kernel_rfl
theorem impl_itemOk.bits1 : waitsOk impl_itemOk.T1.2 impl_itemOk.B1 = true := by kernel_rfl
set_option maxHeartbeats 8000000 in
set_option maxRecDepth 100000 in
theorem impl_itemOk.calls (k : Nat) (a0_0 : ByteArray) (a0_1 : ByteArray) (A0_2 : Option Addr) (c0_2 : Nat) (l0_2 : List ByteArray) (a0_3 : ByteArray) (A0_4 : Option Addr) (c0_4 : Nat) (l0_4 : List (S70)) (A1 : Option Addr) (c1 : Nat) (l1 : List ByteArray) (r : Bool) (w : World) (hE : EnvW w) (hr0_2 : Kd.C Kd.string w A0_2 l0_2.length l0_2) (hc0_2 : l0_2.length ≤ c0_2) (hr0_4 : Kd.C k70 w A0_4 l0_4.length l0_4) (hc0_4 : l0_4.length ≤ c0_4) (hr1 : Kd.C Kd.string w A1 l1.length l1) (hc1 : l1.length ≤ c1) (h : impl_itemOk.f k a0_0 a0_1 l0_2 a0_3 l0_4 l1 = some r) :
 Calls Tryz.prog 35 #[.agg #[.string a0_0, .string a0_1, .slice A0_2 l0_2.length c0_2, .string a0_3, .slice A0_4 l0_4.length c0_4], .slice A1 l1.length c1] w fun e w' => e = .returned (.bool r) ∧ Below w.heap.size w w' := by
 have hu54 := Tryz.underlying54
 have HE := Aside0.mk hE
 clear hE
 have HR0_2 := Aside0.mk hr0_2
 have HC0_2 := Aside0.mk hc0_2
 clear hr0_2 hc0_2
 have HR0_4 := Aside0.mk hr0_4
 have HC0_4 := Aside0.mk hc0_4
 clear hr0_4 hc0_4
 have HR1 := Aside0.mk hr1
 have HC1 := Aside0.mk hc1
 clear hr1 hc1
 have HB := Aside0.mk (Below.refl w.heap.size w)
 have H : ((impl_AddressOk.f k a0_0).bind fun t436 => (if t436 = true then ((impl_TreeOk.f k l0_4).bind fun t437 => (if t437 = true then ((impl_TreeSum.f k l0_4).bind fun t438 => (if a0_1.toList = t438.toList then ((impl_RefsIn.f k l0_4 l1).bind fun t439 => ((impl_sameTexts.f k l0_2 t439).bind fun t442 => (if t442 = true then (if a0_3.toList = ([] : List UInt8) then (some true) else ((impl_AddressOk.f k a0_3).bind fun t443 => (some t443))) else (some false)))) else (some false))) else (some false))) else (some false))) = some r := h
 clear h
 replace H := Option.bind_eq_some_iff.mp H
 obtain ⟨t436, A30, H⟩ := H
 have A3 := Aside0.mk A30
 clear A30
 by_cases c4 : t436 = true
 {
 subst c4
 rw [if_pos rfl] at H
 replace H := Option.bind_eq_some_iff.mp H
 obtain ⟨t437, A50, H⟩ := H
 have A5 := Aside0.mk A50
 clear A50
 by_cases c6 : t437 = true
 {
 subst c6
 rw [if_pos rfl] at H
 replace H := Option.bind_eq_some_iff.mp H
 obtain ⟨t438, A70, H⟩ := H
 have A7 := Aside0.mk A70
 clear A70
 by_cases c8 : a0_1.toList = t438.toList
 {
 rw [if_pos c8] at H
 have c8b0 : (a0_1.toList == t438.toList) = true := beq_iff_eq.mpr c8
 have c8b1 : (a0_1.toList != t438.toList) = false := bne_eq_false_iff_eq.mpr c8
 clear c8
 replace H := Option.bind_eq_some_iff.mp H
 obtain ⟨t439, A90, H⟩ := H
 have A9 := Aside0.mk A90
 clear A90
 replace H := Option.bind_eq_some_iff.mp H
 obtain ⟨t442, A100, H⟩ := H
 have A10 := Aside0.mk A100
 clear A100
 by_cases c11 : t442 = true
 {
 subst c11
 rw [if_pos rfl] at H
 by_cases c12 : a0_3.toList = ([] : List UInt8)
 {
 rw [if_pos c12] at H
 have c12b0 : (a0_3.toList == ([] : List UInt8)) = true := beq_iff_eq.mpr c12
 have c12b1 : (a0_3.toList != ([] : List UInt8)) = false := bne_eq_false_iff_eq.mpr c12
 clear c12
 obtain rfl := Option.some.inj H
 go_enter Tryz.func35, Tryz.ntmps35
 try go_wp2_with (first | ((with_reducible refine gate_dst (N := 2) rfl ?_); refine box_event ?hg (N := 2) ?hd (cs := #[.string a0_0, .string a0_1, .slice A0_2 l0_2.length c0_2, .string a0_3, .slice A0_4 l0_4.length c0_4]) (t := 54) ?hr ?_; (case hd => rfl); (case hg => rfl); (case hr => first | (go_simp; done) | (go_simp; rfl)); intro gb435 hg w13 hbox hb; have n0_ := Aside0.mk (below_step (bw_ HB) hb); have n1_ := Aside0.mk (hbox); have n2_ := Aside0.mk ((by rw [hg]; exact (below_size (bw_ HB)) : w.heap.size ≤ gb435)); have n3_ := Aside0.mk ((by rw [hg]; exact (below_size (bw_ HB)) : w.heap.size ≤ gb435)); clear HB; have HB := n0_; have BK435 := n1_; have GW435 := n2_; have GE435 := n3_; clear n0_ n1_ n2_ n3_; clear hb hbox hg))
 have n0_ := Aside0.mk (blk_drew BK435.out)
 have n1_ := Aside0.mk (below_drew1 HB.out)
 clear BK435
 clear HB
 have BK435 := n0_
 have HB := n1_
 clear n0_ n1_
 refine start_ (n := 36) (S := fun w' => w'.cell? ⟨gb435, 0, none⟩ = some (.string a0_0) ∧ w'.cell? ⟨gb435, 1, none⟩ = some (.string a0_1) ∧ w'.cell? ⟨gb435, 2, none⟩ = some (.slice A0_2 l0_2.length c0_2) ∧ w'.cell? ⟨gb435, 3, none⟩ = some (.string a0_3) ∧ w'.cell? ⟨gb435, 4, none⟩ = some (.slice A0_4 l0_4.length c0_4)) (ds := []) (bs_ 36 0) (by kernel_rfl) rfl (by kernel_rfl) ⟨(blk_cell BK435.out 0).trans rfl, (blk_cell BK435.out 1).trans rfl, (blk_cell BK435.out 2).trans rfl, (blk_cell BK435.out 3).trans rfl, (blk_cell BK435.out 4).trans rfl⟩ (fun hHeld => ?_); refine with_tabW impl_itemOk.tab1 impl_itemOk.bits1 (fun HT_ HW_ => ?_)
 generalize w13.drew = w14 at BK435 HB hHeld ⊢
 refine pS_ 0 ?_
 refine t5_ 1 hHeld ?_
 refine oS_ 2 (fun K hK => ?_)
 refine gS_ Tryz.func62 #[.string a0_0] ?_
 with_reducible refine (impl_AddressOk.calls k a0_0 true _ A3.out).mono ?_
 rintro e w' ⟨rfl, ⟨nd, rfl⟩⟩
 refine ⟨_, rfl, ?_⟩
 refine hK.out _ _ ⟨(blk_cell BK435.out 0).trans rfl, (blk_cell BK435.out 1).trans rfl, (blk_cell BK435.out 2).trans rfl, (blk_cell BK435.out 3).trans rfl, (blk_cell BK435.out 4).trans rfl⟩ (fun hHeld => ?_)
 clear hK K
 refine nS_ 7 ?_
 refine pS_ 3 ?_
 refine pS_ 4 ?_
 refine t5_ 5 hHeld ?_
 refine oS_ 6 (fun K hK => ?_)
 refine gS_ Tryz.func63 #[.slice A0_4 l0_4.length c0_4] ?_
 with_reducible refine (impl_TreeOk.calls k _ _ l0_4 true _ ?side1 ?side2 ?side3 A5.out).mono ?_
 (case side1 => refine EnvW.below HE.out ?_; repeat (first | (with_reducible first | exact HB.out | apply below_alloc | apply pw_below_drewN | apply below_drew1 | refine below_set ?_ GE435.out) | exact HB.out))
 (case side2 => repeat (first | exact (Kd.C_below HR0_4.out (bw1_ HB GE435)) | (with_reducible refine Kd.C_alloc ?_ _) | (with_reducible refine Kd.C_drewN ?_ _) | (with_reducible refine Kd.C_drew ?_)))
 (case side3 => exact HC0_4.out)
 rintro e w15 ⟨rfl, hb⟩
 refine ⟨_, rfl, ?_⟩
 have n0_ := Aside0.mk (blk_below (g := gb435) (o := .cells #[.string a0_0, .string a0_1, .slice A0_2 l0_2.length c0_2, .string a0_3, .slice A0_4 l0_4.length c0_4] 54 (0, 0)) (by (with_reducible repeat (first | refine blk_drewN ?_ _ | refine blk_drew ?_ | refine blk_alloc ?_ _)); exact BK435.out) hb)
 have n1_ := Aside0.mk (below_step (bw1_ HB GE435) hb)
 clear BK435
 clear HB
 have BK435 := n0_
 have HB := n1_
 clear n0_ n1_
 (try clear hb)
 (try clear hb2)
 (try clear hk)
 (try clear hi)
 refine hK.out _ _ ⟨(blk_cell BK435.out 0).trans rfl, (blk_cell BK435.out 1).trans rfl, (blk_cell BK435.out 2).trans rfl, (blk_cell BK435.out 3).trans rfl, (blk_cell BK435.out 4).trans rfl⟩ (fun hHeld => ?_)
 clear hK K
 refine nS_ 11 ?_
 refine pS_ 7 ?_
 refine pS_ 8 ?_
 refine pS_ 9 ?_
 refine pS_ 11 ?_
 refine t5_ 10 hHeld ?_
 refine t5_ 12 hHeld ?_
 refine oS_ 13 (fun K hK => ?_)
 refine gS_ Tryz.func50 #[.slice A0_4 l0_4.length c0_4] ?_
 with_reducible refine (impl_TreeSum.calls k _ _ l0_4 t438 _ ?side1 ?side2 ?side3 A7.out).mono ?_
 (case side1 => refine EnvW.below HE.out ?_; repeat (first | (with_reducible first | exact HB.out | apply below_alloc | apply pw_below_drewN | apply below_drew1 | refine below_set ?_ GE435.out) | exact HB.out))
 (case side2 => exact cS_ HR0_4 HB)
 (case side3 => exact HC0_4.out)
 rintro e w16 ⟨rfl, hb⟩
 refine ⟨_, rfl, ?_⟩
 have n0_ := Aside0.mk (blk_below (g := gb435) (o := .cells #[.string a0_0, .string a0_1, .slice A0_2 l0_2.length c0_2, .string a0_3, .slice A0_4 l0_4.length c0_4] 54 (0, 0)) (by (with_reducible repeat (first | refine blk_drewN ?_ _ | refine blk_drew ?_ | refine blk_alloc ?_ _)); exact BK435.out) hb)
 have n1_ := Aside0.mk (below_step (bw1_ HB GE435) hb)
 clear BK435
 clear HB
 have BK435 := n0_
 have HB := n1_
 clear n0_ n1_
 (try clear hb)
 (try clear hb2)
 (try clear hk)
 (try clear hi)
 refine hK.out _ _ ⟨(blk_cell BK435.out 0).trans rfl, (blk_cell BK435.out 1).trans rfl, (blk_cell BK435.out 2).trans rfl, (blk_cell BK435.out 3).trans rfl, (blk_cell BK435.out 4).trans rfl⟩ (fun hHeld => ?_)
 clear hK K
 refine nS_ 18 ?_
 refine pS_ 14 ?_
 refine pS_ 15 ?_
 refine pS_ 16 ?_
 refine pS_ 17 ?_
 refine pS_ 19 ?_
 refine pS_ 21 ?_
 refine t5_ 18 hHeld ?_
 refine t5_ 20 hHeld ?_
 refine oS_ 22 (fun K hK => ?_)
 refine gS_ Tryz.func52 #[.slice A0_4 l0_4.length c0_4, .slice A1 l1.length c1] ?_
 with_reducible refine (impl_RefsIn.calls k _ _ l0_4 _ _ l1 t439 _ ?side1 ?side2 ?side3 ?side4 ?side5 A9.out).mono ?_
 (case side1 => refine EnvW.below HE.out ?_; repeat (first | (with_reducible first | exact HB.out | apply below_alloc | apply pw_below_drewN | apply below_drew1 | refine below_set ?_ GE435.out) | exact HB.out))
 (case side2 => exact cS_ HR0_4 HB)
 (case side3 => exact HC0_4.out)
 (case side4 => exact cS_ HR1 HB)
 (case side5 => exact HC1.out)
 rintro e w17 ⟨v440, rfl, ho0, hb⟩
 refine ⟨_, rfl, ?_⟩
 have n0_ := Aside0.mk (Kd.R_lower ho0 (below_size (bw1_ HB GE435)))
 have n1_ := Aside0.mk (blk_below (g := gb435) (o := .cells #[.string a0_0, .string a0_1, .slice A0_2 l0_2.length c0_2, .string a0_3, .slice A0_4 l0_4.length c0_4] 54 (0, 0)) (by (with_reducible repeat (first | refine blk_drewN ?_ _ | refine blk_drew ?_ | refine blk_alloc ?_ _)); exact BK435.out) hb)
 have n2_ := Aside0.mk (below_step (bw1_ HB GE435) hb)
 clear BK435
 clear HB
 have HO441 := n0_
 have BK435 := n1_
 have HB := n2_
 clear n0_ n1_ n2_
 (try clear hb)
 (try clear hb2)
 (try clear hk)
 (try clear hi)
 (try clear ho0)
 obtain ⟨Ao18, co18, eo18⟩ := Kd.R_slice HO441.out
 (first | subst eo18 | (injection eo18 with f1_ f2_ f3_; have f4_ := f1_.symm; have f5_ := f3_.symm; clear f1_ f2_ f3_; subst f4_; subst f5_))
 refine hK.out _ _ ⟨(blk_cell BK435.out 0).trans rfl, (blk_cell BK435.out 1).trans rfl, (blk_cell BK435.out 2).trans rfl, (blk_cell BK435.out 3).trans rfl, (blk_cell BK435.out 4).trans rfl⟩ (fun hHeld => ?_)
 clear hK K
 refine nS_ 27 ?_
 refine oS_ 23 (fun K hK => ?_)
 refine gS_ Tryz.func64 #[.slice A0_2 l0_2.length c0_2, .slice Ao18 t439.length co18] ?_
 with_reducible refine (impl_sameTexts.calls k _ _ l0_2 _ _ t439 true _ ?side1 ?side2 ?side3 ?side4 A10.out).mono ?_
 (case side1 => exact cS_ HR0_2 HB)
 (case side2 => exact HC0_2.out)
 (case side3 => repeat (first | exact (Kd.R_reads' HO441.out).2.2 | (with_reducible refine Kd.C_alloc ?_ _) | (with_reducible refine Kd.C_drewN ?_ _) | (with_reducible refine Kd.C_drew ?_)))
 (case side4 => exact (Kd.R_reads' HO441.out).2.1)
 rintro e w' ⟨rfl, ⟨nd, rfl⟩⟩
 refine ⟨_, rfl, ?_⟩
 refine hK.out _ _ ⟨(blk_cell BK435.out 0).trans rfl, (blk_cell BK435.out 1).trans rfl, (blk_cell BK435.out 2).trans rfl, (blk_cell BK435.out 3).trans rfl, (blk_cell BK435.out 4).trans rfl⟩ (fun hHeld => ?_)
 clear hK K
 refine nS_ 28 ?_
 refine pS_ 24 ?_
 refine pS_ 25 ?_
 refine pS_ 26 ?_
 refine t5_ 27 hHeld ?_
 refine pS_ 28 ?_
 refine pS_ 29 ?_
 refine pU_ 30 ?_
 refine pU_ 31 ?_
 refine pU_ 32 ?_
 refine pS_ 33 ?_
 refine pS_ 34 ?_
 refine pS_ 35 ?_
 refine done_ (done_of HT_.out (by kernel_rfl)) ?_
 try go_wp2
 go_ret
 exact ⟨eR_, bw1_ HB GE435⟩}
 {
 rw [if_neg c12] at H
 have c12b0 : (a0_3.toList == ([] : List UInt8)) = false := beq_eq_false_iff_ne.mpr c12
 have c12b1 : (a0_3.toList != ([] : List UInt8)) = true := bne_iff_ne.mpr c12
 replace H := Option.bind_eq_some_iff.mp H
 obtain ⟨t443, A190, H⟩ := H
 have A19 := Aside0.mk A190
 clear A190
 obtain rfl := Option.some.inj H
 go_enter Tryz.func35, Tryz.ntmps35
 try go_wp2_with (first | ((with_reducible refine gate_dst (N := 2) rfl ?_); refine box_event ?hg (N := 2) ?hd (cs := #[.string a0_0, .string a0_1, .slice A0_2 l0_2.length c0_2, .string a0_3, .slice A0_4 l0_4.length c0_4]) (t := 54) ?hr ?_; (case hd => rfl); (case hg => rfl); (case hr => first | (go_simp; done) | (go_simp; rfl)); intro gb435 hg w20 hbox hb; have n0_ := Aside0.mk (below_step (bw_ HB) hb); have n1_ := Aside0.mk (hbox); have n2_ := Aside0.mk ((by rw [hg]; exact (below_size (bw_ HB)) : w.heap.size ≤ gb435)); have n3_ := Aside0.mk ((by rw [hg]; exact (below_size (bw_ HB)) : w.heap.size ≤ gb435)); clear HB; have HB := n0_; have BK435 := n1_; have GW435 := n2_; have GE435 := n3_; clear n0_ n1_ n2_ n3_; clear hb hbox hg))
 have n0_ := Aside0.mk (blk_drew BK435.out)
 have n1_ := Aside0.mk (below_drew1 HB.out)
 clear BK435
 clear HB
 have BK435 := n0_
 have HB := n1_
 clear n0_ n1_
 refine start_ (n := 36) (S := fun w' => w'.cell? ⟨gb435, 0, none⟩ = some (.string a0_0) ∧ w'.cell? ⟨gb435, 1, none⟩ = some (.string a0_1) ∧ w'.cell? ⟨gb435, 2, none⟩ = some (.slice A0_2 l0_2.length c0_2) ∧ w'.cell? ⟨gb435, 3, none⟩ = some (.string a0_3) ∧ w'.cell? ⟨gb435, 4, none⟩ = some (.slice A0_4 l0_4.length c0_4)) (ds := []) (bs_ 36 0) (by kernel_rfl) rfl (by kernel_rfl) ⟨(blk_cell BK435.out 0).trans rfl, (blk_cell BK435.out 1).trans rfl, (blk_cell BK435.out 2).trans rfl, (blk_cell BK435.out 3).trans rfl, (blk_cell BK435.out 4).trans rfl⟩ (fun hHeld => ?_); refine with_tabW impl_itemOk.tab1 impl_itemOk.bits1 (fun HT_ HW_ => ?_)
 generalize w20.drew = w21 at BK435 HB hHeld ⊢
 refine pS_ 0 ?_
 refine t5_ 1 hHeld ?_
 refine oS_ 2 (fun K hK => ?_)
 refine gS_ Tryz.func62 #[.string a0_0] ?_
 with_reducible refine (impl_AddressOk.calls k a0_0 true _ A3.out).mono ?_
 rintro e w' ⟨rfl, ⟨nd, rfl⟩⟩
 refine ⟨_, rfl, ?_⟩
 refine hK.out _ _ ⟨(blk_cell BK435.out 0).trans rfl, (blk_cell BK435.out 1).trans rfl, (blk_cell BK435.out 2).trans rfl, (blk_cell BK435.out 3).trans rfl, (blk_cell BK435.out 4).trans rfl⟩ (fun hHeld => ?_)
 clear hK K
 refine nS_ 7 ?_
 refine pS_ 3 ?_
 refine pS_ 4 ?_
 refine t5_ 5 hHeld ?_
 refine oS_ 6 (fun K hK => ?_)
 refine gS_ Tryz.func63 #[.slice A0_4 l0_4.length c0_4] ?_
 with_reducible refine (impl_TreeOk.calls k _ _ l0_4 true _ ?side1 ?side2 ?side3 A5.out).mono ?_
 (case side1 => refine EnvW.below HE.out ?_; repeat (first | (with_reducible first | exact HB.out | apply below_alloc | apply pw_below_drewN | apply below_drew1 | refine below_set ?_ GE435.out) | exact HB.out))
 (case side2 => repeat (first | exact (Kd.C_below HR0_4.out (bw1_ HB GE435)) | (with_reducible refine Kd.C_alloc ?_ _) | (with_reducible refine Kd.C_drewN ?_ _) | (with_reducible refine Kd.C_drew ?_)))
 (case side3 => exact HC0_4.out)
 rintro e w22 ⟨rfl, hb⟩
 refine ⟨_, rfl, ?_⟩
 have n0_ := Aside0.mk (blk_below (g := gb435) (o := .cells #[.string a0_0, .string a0_1, .slice A0_2 l0_2.length c0_2, .string a0_3, .slice A0_4 l0_4.length c0_4] 54 (0, 0)) (by (with_reducible repeat (first | refine blk_drewN ?_ _ | refine blk_drew ?_ | refine blk_alloc ?_ _)); exact BK435.out) hb)
 have n1_ := Aside0.mk (below_step (bw1_ HB GE435) hb)
 clear BK435
 clear HB
 have BK435 := n0_
 have HB := n1_
 clear n0_ n1_
 (try clear hb)
 (try clear hb2)
 (try clear hk)
 (try clear hi)
 refine hK.out _ _ ⟨(blk_cell BK435.out 0).trans rfl, (blk_cell BK435.out 1).trans rfl, (blk_cell BK435.out 2).trans rfl, (blk_cell BK435.out 3).trans rfl, (blk_cell BK435.out 4).trans rfl⟩ (fun hHeld => ?_)
 clear hK K
 refine nS_ 11 ?_
 refine pS_ 7 ?_
 refine pS_ 8 ?_
 refine pS_ 9 ?_
 refine pS_ 11 ?_
 refine t5_ 10 hHeld ?_
 refine t5_ 12 hHeld ?_
 refine oS_ 13 (fun K hK => ?_)
 refine gS_ Tryz.func50 #[.slice A0_4 l0_4.length c0_4] ?_
 with_reducible refine (impl_TreeSum.calls k _ _ l0_4 t438 _ ?side1 ?side2 ?side3 A7.out).mono ?_
 (case side1 => refine EnvW.below HE.out ?_; repeat (first | (with_reducible first | exact HB.out | apply below_alloc | apply pw_below_drewN | apply below_drew1 | refine below_set ?_ GE435.out) | exact HB.out))
 (case side2 => exact cS_ HR0_4 HB)
 (case side3 => exact HC0_4.out)
 rintro e w23 ⟨rfl, hb⟩
 refine ⟨_, rfl, ?_⟩
 have n0_ := Aside0.mk (blk_below (g := gb435) (o := .cells #[.string a0_0, .string a0_1, .slice A0_2 l0_2.length c0_2, .string a0_3, .slice A0_4 l0_4.length c0_4] 54 (0, 0)) (by (with_reducible repeat (first | refine blk_drewN ?_ _ | refine blk_drew ?_ | refine blk_alloc ?_ _)); exact BK435.out) hb)
 have n1_ := Aside0.mk (below_step (bw1_ HB GE435) hb)
 clear BK435
 clear HB
 have BK435 := n0_
 have HB := n1_
 clear n0_ n1_
 (try clear hb)
 (try clear hb2)
 (try clear hk)
 (try clear hi)
 refine hK.out _ _ ⟨(blk_cell BK435.out 0).trans rfl, (blk_cell BK435.out 1).trans rfl, (blk_cell BK435.out 2).trans rfl, (blk_cell BK435.out 3).trans rfl, (blk_cell BK435.out 4).trans rfl⟩ (fun hHeld => ?_)
 clear hK K
 refine nS_ 18 ?_
 refine pS_ 14 ?_
 refine pS_ 15 ?_
 refine pS_ 16 ?_
 refine pS_ 17 ?_
 refine pS_ 19 ?_
 refine pS_ 21 ?_
 refine t5_ 18 hHeld ?_
 refine t5_ 20 hHeld ?_
 refine oS_ 22 (fun K hK => ?_)
 refine gS_ Tryz.func52 #[.slice A0_4 l0_4.length c0_4, .slice A1 l1.length c1] ?_
 with_reducible refine (impl_RefsIn.calls k _ _ l0_4 _ _ l1 t439 _ ?side1 ?side2 ?side3 ?side4 ?side5 A9.out).mono ?_
 (case side1 => refine EnvW.below HE.out ?_; repeat (first | (with_reducible first | exact HB.out | apply below_alloc | apply pw_below_drewN | apply below_drew1 | refine below_set ?_ GE435.out) | exact HB.out))
 (case side2 => exact cS_ HR0_4 HB)
 (case side3 => exact HC0_4.out)
 (case side4 => exact cS_ HR1 HB)
 (case side5 => exact HC1.out)
 rintro e w24 ⟨v440, rfl, ho0, hb⟩
 refine ⟨_, rfl, ?_⟩
 have n0_ := Aside0.mk (Kd.R_lower ho0 (below_size (bw1_ HB GE435)))
 have n1_ := Aside0.mk (blk_below (g := gb435) (o := .cells #[.string a0_0, .string a0_1, .slice A0_2 l0_2.length c0_2, .string a0_3, .slice A0_4 l0_4.length c0_4] 54 (0, 0)) (by (with_reducible repeat (first | refine blk_drewN ?_ _ | refine blk_drew ?_ | refine blk_alloc ?_ _)); exact BK435.out) hb)
 have n2_ := Aside0.mk (below_step (bw1_ HB GE435) hb)
 clear BK435
 clear HB
 have HO441 := n0_
 have BK435 := n1_
 have HB := n2_
 clear n0_ n1_ n2_
 (try clear hb)
 (try clear hb2)
 (try clear hk)
 (try clear hi)
 (try clear ho0)
 obtain ⟨Ao25, co25, eo25⟩ := Kd.R_slice HO441.out
 (first | subst eo25 | (injection eo25 with f1_ f2_ f3_; have f4_ := f1_.symm; have f5_ := f3_.symm; clear f1_ f2_ f3_; subst f4_; subst f5_))
 refine hK.out _ _ ⟨(blk_cell BK435.out 0).trans rfl, (blk_cell BK435.out 1).trans rfl, (blk_cell BK435.out 2).trans rfl, (blk_cell BK435.out 3).trans rfl, (blk_cell BK435.out 4).trans rfl⟩ (fun hHeld => ?_)
 clear hK K
 refine nS_ 27 ?_
 refine oS_ 23 (fun K hK => ?_)
 refine gS_ Tryz.func64 #[.slice A0_2 l0_2.length c0_2, .slice Ao25 t439.length co25] ?_
 with_reducible refine (impl_sameTexts.calls k _ _ l0_2 _ _ t439 true _ ?side1 ?side2 ?side3 ?side4 A10.out).mono ?_
 (case side1 => exact cS_ HR0_2 HB)
 (case side2 => exact HC0_2.out)
 (case side3 => repeat (first | exact (Kd.R_reads' HO441.out).2.2 | (with_reducible refine Kd.C_alloc ?_ _) | (with_reducible refine Kd.C_drewN ?_ _) | (with_reducible refine Kd.C_drew ?_)))
 (case side4 => exact (Kd.R_reads' HO441.out).2.1)
 rintro e w' ⟨rfl, ⟨nd, rfl⟩⟩
 refine ⟨_, rfl, ?_⟩
 refine hK.out _ _ ⟨(blk_cell BK435.out 0).trans rfl, (blk_cell BK435.out 1).trans rfl, (blk_cell BK435.out 2).trans rfl, (blk_cell BK435.out 3).trans rfl, (blk_cell BK435.out 4).trans rfl⟩ (fun hHeld => ?_)
 clear hK K
 refine nS_ 28 ?_
 refine pS_ 24 ?_
 refine pS_ 25 ?_
 refine pS_ 26 ?_
 refine t5_ 27 hHeld ?_
 refine pS_ 28 ?_
 refine pS_ 29 ?_
 refine pS_ 30 ?_
 refine t5_ 31 hHeld ?_
 refine oS_ 32 (fun K hK => ?_)
 refine gS_ Tryz.func62 #[.string a0_3] ?_
 with_reducible refine (impl_AddressOk.calls k a0_3 t443 _ A19.out).mono ?_
 rintro e w' ⟨rfl, ⟨nd, rfl⟩⟩
 refine ⟨_, rfl, ?_⟩
 refine hK.out _ _ ⟨(blk_cell BK435.out 0).trans rfl, (blk_cell BK435.out 1).trans rfl, (blk_cell BK435.out 2).trans rfl, (blk_cell BK435.out 3).trans rfl, (blk_cell BK435.out 4).trans rfl⟩ (fun hHeld => ?_)
 clear hK K
 refine nS_ 37 ?_
 refine pS_ 33 ?_
 refine pS_ 34 ?_
 refine pS_ 35 ?_
 refine done_ (done_of HT_.out (by kernel_rfl)) ?_
 try go_wp2
 go_ret
 exact ⟨eR_, bw1_ HB GE435⟩}}
 {
 replace c11 := Bool.eq_false_iff.mpr c11
 subst c11
 rw [if_neg (show ¬ (false = true) by decide)] at H
 obtain rfl := Option.some.inj H
 go_enter Tryz.func35, Tryz.ntmps35
 try go_wp2_with (first | ((with_reducible refine gate_dst (N := 2) rfl ?_); refine box_event ?hg (N := 2) ?hd (cs := #[.string a0_0, .string a0_1, .slice A0_2 l0_2.length c0_2, .string a0_3, .slice A0_4 l0_4.length c0_4]) (t := 54) ?hr ?_; (case hd => rfl); (case hg => rfl); (case hr => first | (go_simp; done) | (go_simp; rfl)); intro gb435 hg w26 hbox hb; have n0_ := Aside0.mk (below_step (bw_ HB) hb); have n1_ := Aside0.mk (hbox); have n2_ := Aside0.mk ((by rw [hg]; exact (below_size (bw_ HB)) : w.heap.size ≤ gb435)); have n3_ := Aside0.mk ((by rw [hg]; exact (below_size (bw_ HB)) : w.heap.size ≤ gb435)); clear HB; have HB := n0_; have BK435 := n1_; have GW435 := n2_; have GE435 := n3_; clear n0_ n1_ n2_ n3_; clear hb hbox hg))
 have n0_ := Aside0.mk (blk_drew BK435.out)
 have n1_ := Aside0.mk (below_drew1 HB.out)
 clear BK435
 clear HB
 have BK435 := n0_
 have HB := n1_
 clear n0_ n1_
 refine start_ (n := 36) (S := fun w' => w'.cell? ⟨gb435, 0, none⟩ = some (.string a0_0) ∧ w'.cell? ⟨gb435, 1, none⟩ = some (.string a0_1) ∧ w'.cell? ⟨gb435, 2, none⟩ = some (.slice A0_2 l0_2.length c0_2) ∧ w'.cell? ⟨gb435, 3, none⟩ = some (.string a0_3) ∧ w'.cell? ⟨gb435, 4, none⟩ = some (.slice A0_4 l0_4.length c0_4)) (ds := []) (bs_ 36 0) (by kernel_rfl) rfl (by kernel_rfl) ⟨(blk_cell BK435.out 0).trans rfl, (blk_cell BK435.out 1).trans rfl, (blk_cell BK435.out 2).trans rfl, (blk_cell BK435.out 3).trans rfl, (blk_cell BK435.out 4).trans rfl⟩ (fun hHeld => ?_); refine with_tabW impl_itemOk.tab1 impl_itemOk.bits1 (fun HT_ HW_ => ?_)
 generalize w26.drew = w27 at BK435 HB hHeld ⊢
 refine pS_ 0 ?_
 refine t5_ 1 hHeld ?_
 refine oS_ 2 (fun K hK => ?_)
 refine gS_ Tryz.func62 #[.string a0_0] ?_
 with_reducible refine (impl_AddressOk.calls k a0_0 true _ A3.out).mono ?_
 rintro e w' ⟨rfl, ⟨nd, rfl⟩⟩
 refine ⟨_, rfl, ?_⟩
 refine hK.out _ _ ⟨(blk_cell BK435.out 0).trans rfl, (blk_cell BK435.out 1).trans rfl, (blk_cell BK435.out 2).trans rfl, (blk_cell BK435.out 3).trans rfl, (blk_cell BK435.out 4).trans rfl⟩ (fun hHeld => ?_)
 clear hK K
 refine nS_ 7 ?_
 refine pS_ 3 ?_
 refine pS_ 4 ?_
 refine t5_ 5 hHeld ?_
 refine oS_ 6 (fun K hK => ?_)
 refine gS_ Tryz.func63 #[.slice A0_4 l0_4.length c0_4] ?_
 with_reducible refine (impl_TreeOk.calls k _ _ l0_4 true _ ?side1 ?side2 ?side3 A5.out).mono ?_
 (case side1 => refine EnvW.below HE.out ?_; repeat (first | (with_reducible first | exact HB.out | apply below_alloc | apply pw_below_drewN | apply below_drew1 | refine below_set ?_ GE435.out) | exact HB.out))
 (case side2 => repeat (first | exact (Kd.C_below HR0_4.out (bw1_ HB GE435)) | (with_reducible refine Kd.C_alloc ?_ _) | (with_reducible refine Kd.C_drewN ?_ _) | (with_reducible refine Kd.C_drew ?_)))
 (case side3 => exact HC0_4.out)
 rintro e w28 ⟨rfl, hb⟩
 refine ⟨_, rfl, ?_⟩
 have n0_ := Aside0.mk (blk_below (g := gb435) (o := .cells #[.string a0_0, .string a0_1, .slice A0_2 l0_2.length c0_2, .string a0_3, .slice A0_4 l0_4.length c0_4] 54 (0, 0)) (by (with_reducible repeat (first | refine blk_drewN ?_ _ | refine blk_drew ?_ | refine blk_alloc ?_ _)); exact BK435.out) hb)
 have n1_ := Aside0.mk (below_step (bw1_ HB GE435) hb)
 clear BK435
 clear HB
 have BK435 := n0_
 have HB := n1_
 clear n0_ n1_
 (try clear hb)
 (try clear hb2)
 (try clear hk)
 (try clear hi)
 refine hK.out _ _ ⟨(blk_cell BK435.out 0).trans rfl, (blk_cell BK435.out 1).trans rfl, (blk_cell BK435.out 2).trans rfl, (blk_cell BK435.out 3).trans rfl, (blk_cell BK435.out 4).trans rfl⟩ (fun hHeld => ?_)
 clear hK K
 refine nS_ 11 ?_
 refine pS_ 7 ?_
 refine pS_ 8 ?_
 refine pS_ 9 ?_
 refine pS_ 11 ?_
 refine t5_ 10 hHeld ?_
 refine t5_ 12 hHeld ?_
 refine oS_ 13 (fun K hK => ?_)
 refine gS_ Tryz.func50 #[.slice A0_4 l0_4.length c0_4] ?_
 with_reducible refine (impl_TreeSum.calls k _ _ l0_4 t438 _ ?side1 ?side2 ?side3 A7.out).mono ?_
 (case side1 => refine EnvW.below HE.out ?_; repeat (first | (with_reducible first | exact HB.out | apply below_alloc | apply pw_below_drewN | apply below_drew1 | refine below_set ?_ GE435.out) | exact HB.out))
 (case side2 => exact cS_ HR0_4 HB)
 (case side3 => exact HC0_4.out)
 rintro e w29 ⟨rfl, hb⟩
 refine ⟨_, rfl, ?_⟩
 have n0_ := Aside0.mk (blk_below (g := gb435) (o := .cells #[.string a0_0, .string a0_1, .slice A0_2 l0_2.length c0_2, .string a0_3, .slice A0_4 l0_4.length c0_4] 54 (0, 0)) (by (with_reducible repeat (first | refine blk_drewN ?_ _ | refine blk_drew ?_ | refine blk_alloc ?_ _)); exact BK435.out) hb)
 have n1_ := Aside0.mk (below_step (bw1_ HB GE435) hb)
 clear BK435
 clear HB
 have BK435 := n0_
 have HB := n1_
 clear n0_ n1_
 (try clear hb)
 (try clear hb2)
 (try clear hk)
 (try clear hi)
 refine hK.out _ _ ⟨(blk_cell BK435.out 0).trans rfl, (blk_cell BK435.out 1).trans rfl, (blk_cell BK435.out 2).trans rfl, (blk_cell BK435.out 3).trans rfl, (blk_cell BK435.out 4).trans rfl⟩ (fun hHeld => ?_)
 clear hK K
 refine nS_ 18 ?_
 refine pS_ 14 ?_
 refine pS_ 15 ?_
 refine pS_ 16 ?_
 refine pS_ 17 ?_
 refine pS_ 19 ?_
 refine pS_ 21 ?_
 refine t5_ 18 hHeld ?_
 refine t5_ 20 hHeld ?_
 refine oS_ 22 (fun K hK => ?_)
 refine gS_ Tryz.func52 #[.slice A0_4 l0_4.length c0_4, .slice A1 l1.length c1] ?_
 with_reducible refine (impl_RefsIn.calls k _ _ l0_4 _ _ l1 t439 _ ?side1 ?side2 ?side3 ?side4 ?side5 A9.out).mono ?_
 (case side1 => refine EnvW.below HE.out ?_; repeat (first | (with_reducible first | exact HB.out | apply below_alloc | apply pw_below_drewN | apply below_drew1 | refine below_set ?_ GE435.out) | exact HB.out))
 (case side2 => exact cS_ HR0_4 HB)
 (case side3 => exact HC0_4.out)
 (case side4 => exact cS_ HR1 HB)
 (case side5 => exact HC1.out)
 rintro e w30 ⟨v440, rfl, ho0, hb⟩
 refine ⟨_, rfl, ?_⟩
 have n0_ := Aside0.mk (Kd.R_lower ho0 (below_size (bw1_ HB GE435)))
 have n1_ := Aside0.mk (blk_below (g := gb435) (o := .cells #[.string a0_0, .string a0_1, .slice A0_2 l0_2.length c0_2, .string a0_3, .slice A0_4 l0_4.length c0_4] 54 (0, 0)) (by (with_reducible repeat (first | refine blk_drewN ?_ _ | refine blk_drew ?_ | refine blk_alloc ?_ _)); exact BK435.out) hb)
 have n2_ := Aside0.mk (below_step (bw1_ HB GE435) hb)
 clear BK435
 clear HB
 have HO441 := n0_
 have BK435 := n1_
 have HB := n2_
 clear n0_ n1_ n2_
 (try clear hb)
 (try clear hb2)
 (try clear hk)
 (try clear hi)
 (try clear ho0)
 obtain ⟨Ao31, co31, eo31⟩ := Kd.R_slice HO441.out
 (first | subst eo31 | (injection eo31 with f1_ f2_ f3_; have f4_ := f1_.symm; have f5_ := f3_.symm; clear f1_ f2_ f3_; subst f4_; subst f5_))
 refine hK.out _ _ ⟨(blk_cell BK435.out 0).trans rfl, (blk_cell BK435.out 1).trans rfl, (blk_cell BK435.out 2).trans rfl, (blk_cell BK435.out 3).trans rfl, (blk_cell BK435.out 4).trans rfl⟩ (fun hHeld => ?_)
 clear hK K
 refine nS_ 27 ?_
 refine oS_ 23 (fun K hK => ?_)
 refine gS_ Tryz.func64 #[.slice A0_2 l0_2.length c0_2, .slice Ao31 t439.length co31] ?_
 with_reducible refine (impl_sameTexts.calls k _ _ l0_2 _ _ t439 false _ ?side1 ?side2 ?side3 ?side4 A10.out).mono ?_
 (case side1 => exact cS_ HR0_2 HB)
 (case side2 => exact HC0_2.out)
 (case side3 => repeat (first | exact (Kd.R_reads' HO441.out).2.2 | (with_reducible refine Kd.C_alloc ?_ _) | (with_reducible refine Kd.C_drewN ?_ _) | (with_reducible refine Kd.C_drew ?_)))
 (case side4 => exact (Kd.R_reads' HO441.out).2.1)
 rintro e w' ⟨rfl, ⟨nd, rfl⟩⟩
 refine ⟨_, rfl, ?_⟩
 refine hK.out _ _ ⟨(blk_cell BK435.out 0).trans rfl, (blk_cell BK435.out 1).trans rfl, (blk_cell BK435.out 2).trans rfl, (blk_cell BK435.out 3).trans rfl, (blk_cell BK435.out 4).trans rfl⟩ (fun hHeld => ?_)
 clear hK K
 refine nS_ 28 ?_
 refine pS_ 24 ?_
 refine pS_ 25 ?_
 refine pU_ 26 ?_
 refine pU_ 27 ?_
 refine pU_ 28 ?_
 refine pU_ 29 ?_
 refine pU_ 30 ?_
 refine pU_ 31 ?_
 refine pU_ 32 ?_
 refine pU_ 33 ?_
 refine pS_ 34 ?_
 refine pS_ 35 ?_
 refine done_ (done_of HT_.out (by kernel_rfl)) ?_
 try go_wp2
 go_ret
 exact ⟨eR_, bw1_ HB GE435⟩}}
 {
 rw [if_neg c8] at H
 have c8b0 : (a0_1.toList == t438.toList) = false := beq_eq_false_iff_ne.mpr c8
 have c8b1 : (a0_1.toList != t438.toList) = true := bne_iff_ne.mpr c8
 obtain rfl := Option.some.inj H
 go_enter Tryz.func35, Tryz.ntmps35
 try go_wp2_with (first | ((with_reducible refine gate_dst (N := 2) rfl ?_); refine box_event ?hg (N := 2) ?hd (cs := #[.string a0_0, .string a0_1, .slice A0_2 l0_2.length c0_2, .string a0_3, .slice A0_4 l0_4.length c0_4]) (t := 54) ?hr ?_; (case hd => rfl); (case hg => rfl); (case hr => first | (go_simp; done) | (go_simp; rfl)); intro gb435 hg w32 hbox hb; have n0_ := Aside0.mk (below_step (bw_ HB) hb); have n1_ := Aside0.mk (hbox); have n2_ := Aside0.mk ((by rw [hg]; exact (below_size (bw_ HB)) : w.heap.size ≤ gb435)); have n3_ := Aside0.mk ((by rw [hg]; exact (below_size (bw_ HB)) : w.heap.size ≤ gb435)); clear HB; have HB := n0_; have BK435 := n1_; have GW435 := n2_; have GE435 := n3_; clear n0_ n1_ n2_ n3_; clear hb hbox hg))
 have n0_ := Aside0.mk (blk_drew BK435.out)
 have n1_ := Aside0.mk (below_drew1 HB.out)
 clear BK435
 clear HB
 have BK435 := n0_
 have HB := n1_
 clear n0_ n1_
 refine start_ (n := 36) (S := fun w' => w'.cell? ⟨gb435, 0, none⟩ = some (.string a0_0) ∧ w'.cell? ⟨gb435, 1, none⟩ = some (.string a0_1) ∧ w'.cell? ⟨gb435, 2, none⟩ = some (.slice A0_2 l0_2.length c0_2) ∧ w'.cell? ⟨gb435, 3, none⟩ = some (.string a0_3) ∧ w'.cell? ⟨gb435, 4, none⟩ = some (.slice A0_4 l0_4.length c0_4)) (ds := []) (bs_ 36 0) (by kernel_rfl) rfl (by kernel_rfl) ⟨(blk_cell BK435.out 0).trans rfl, (blk_cell BK435.out 1).trans rfl, (blk_cell BK435.out 2).trans rfl, (blk_cell BK435.out 3).trans rfl, (blk_cell BK435.out 4).trans rfl⟩ (fun hHeld => ?_); refine with_tabW impl_itemOk.tab1 impl_itemOk.bits1 (fun HT_ HW_ => ?_)
 generalize w32.drew = w33 at BK435 HB hHeld ⊢
 refine pS_ 0 ?_
 refine t5_ 1 hHeld ?_
 refine oS_ 2 (fun K hK => ?_)
 refine gS_ Tryz.func62 #[.string a0_0] ?_
 with_reducible refine (impl_AddressOk.calls k a0_0 true _ A3.out).mono ?_
 rintro e w' ⟨rfl, ⟨nd, rfl⟩⟩
 refine ⟨_, rfl, ?_⟩
 refine hK.out _ _ ⟨(blk_cell BK435.out 0).trans rfl, (blk_cell BK435.out 1).trans rfl, (blk_cell BK435.out 2).trans rfl, (blk_cell BK435.out 3).trans rfl, (blk_cell BK435.out 4).trans rfl⟩ (fun hHeld => ?_)
 clear hK K
 refine nS_ 7 ?_
 refine pS_ 3 ?_
 refine pS_ 4 ?_
 refine t5_ 5 hHeld ?_
 refine oS_ 6 (fun K hK => ?_)
 refine gS_ Tryz.func63 #[.slice A0_4 l0_4.length c0_4] ?_
 with_reducible refine (impl_TreeOk.calls k _ _ l0_4 true _ ?side1 ?side2 ?side3 A5.out).mono ?_
 (case side1 => refine EnvW.below HE.out ?_; repeat (first | (with_reducible first | exact HB.out | apply below_alloc | apply pw_below_drewN | apply below_drew1 | refine below_set ?_ GE435.out) | exact HB.out))
 (case side2 => repeat (first | exact (Kd.C_below HR0_4.out (bw1_ HB GE435)) | (with_reducible refine Kd.C_alloc ?_ _) | (with_reducible refine Kd.C_drewN ?_ _) | (with_reducible refine Kd.C_drew ?_)))
 (case side3 => exact HC0_4.out)
 rintro e w34 ⟨rfl, hb⟩
 refine ⟨_, rfl, ?_⟩
 have n0_ := Aside0.mk (blk_below (g := gb435) (o := .cells #[.string a0_0, .string a0_1, .slice A0_2 l0_2.length c0_2, .string a0_3, .slice A0_4 l0_4.length c0_4] 54 (0, 0)) (by (with_reducible repeat (first | refine blk_drewN ?_ _ | refine blk_drew ?_ | refine blk_alloc ?_ _)); exact BK435.out) hb)
 have n1_ := Aside0.mk (below_step (bw1_ HB GE435) hb)
 clear BK435
 clear HB
 have BK435 := n0_
 have HB := n1_
 clear n0_ n1_
 (try clear hb)
 (try clear hb2)
 (try clear hk)
 (try clear hi)
 refine hK.out _ _ ⟨(blk_cell BK435.out 0).trans rfl, (blk_cell BK435.out 1).trans rfl, (blk_cell BK435.out 2).trans rfl, (blk_cell BK435.out 3).trans rfl, (blk_cell BK435.out 4).trans rfl⟩ (fun hHeld => ?_)
 clear hK K
 refine nS_ 11 ?_
 refine pS_ 7 ?_
 refine pS_ 8 ?_
 refine pS_ 9 ?_
 refine pS_ 11 ?_
 refine t5_ 10 hHeld ?_
 refine t5_ 12 hHeld ?_
 refine oS_ 13 (fun K hK => ?_)
 refine gS_ Tryz.func50 #[.slice A0_4 l0_4.length c0_4] ?_
 with_reducible refine (impl_TreeSum.calls k _ _ l0_4 t438 _ ?side1 ?side2 ?side3 A7.out).mono ?_
 (case side1 => refine EnvW.below HE.out ?_; repeat (first | (with_reducible first | exact HB.out | apply below_alloc | apply pw_below_drewN | apply below_drew1 | refine below_set ?_ GE435.out) | exact HB.out))
 (case side2 => exact cS_ HR0_4 HB)
 (case side3 => exact HC0_4.out)
 rintro e w35 ⟨rfl, hb⟩
 refine ⟨_, rfl, ?_⟩
 have n0_ := Aside0.mk (blk_below (g := gb435) (o := .cells #[.string a0_0, .string a0_1, .slice A0_2 l0_2.length c0_2, .string a0_3, .slice A0_4 l0_4.length c0_4] 54 (0, 0)) (by (with_reducible repeat (first | refine blk_drewN ?_ _ | refine blk_drew ?_ | refine blk_alloc ?_ _)); exact BK435.out) hb)
 have n1_ := Aside0.mk (below_step (bw1_ HB GE435) hb)
 clear BK435
 clear HB
 have BK435 := n0_
 have HB := n1_
 clear n0_ n1_
 (try clear hb)
 (try clear hb2)
 (try clear hk)
 (try clear hi)
 refine hK.out _ _ ⟨(blk_cell BK435.out 0).trans rfl, (blk_cell BK435.out 1).trans rfl, (blk_cell BK435.out 2).trans rfl, (blk_cell BK435.out 3).trans rfl, (blk_cell BK435.out 4).trans rfl⟩ (fun hHeld => ?_)
 clear hK K
 refine nS_ 18 ?_
 refine pS_ 14 ?_
 refine pS_ 15 ?_
 refine pS_ 16 ?_
 refine pU_ 17 ?_
 refine pU_ 18 ?_
 refine pU_ 19 ?_
 refine pU_ 20 ?_
 refine pU_ 21 ?_
 refine pU_ 22 ?_
 refine pU_ 23 ?_
 refine pS_ 24 ?_
 refine pS_ 25 ?_
 refine pU_ 26 ?_
 refine pU_ 27 ?_
 refine pU_ 28 ?_
 refine pU_ 29 ?_
 refine pU_ 30 ?_
 refine pU_ 31 ?_
 refine pU_ 32 ?_
 refine pU_ 33 ?_
 refine pS_ 34 ?_
 refine pS_ 35 ?_
 refine done_ (done_of HT_.out (by kernel_rfl)) ?_
 try go_wp2
 go_ret
 exact ⟨eR_, bw1_ HB GE435⟩}}
 {
 replace c6 := Bool.eq_false_iff.mpr c6
 subst c6
 rw [if_neg (show ¬ (false = true) by decide)] at H
 obtain rfl := Option.some.inj H
 go_enter Tryz.func35, Tryz.ntmps35
 try go_wp2_with (first | ((with_reducible refine gate_dst (N := 2) rfl ?_); refine box_event ?hg (N := 2) ?hd (cs := #[.string a0_0, .string a0_1, .slice A0_2 l0_2.length c0_2, .string a0_3, .slice A0_4 l0_4.length c0_4]) (t := 54) ?hr ?_; (case hd => rfl); (case hg => rfl); (case hr => first | (go_simp; done) | (go_simp; rfl)); intro gb435 hg w36 hbox hb; have n0_ := Aside0.mk (below_step (bw_ HB) hb); have n1_ := Aside0.mk (hbox); have n2_ := Aside0.mk ((by rw [hg]; exact (below_size (bw_ HB)) : w.heap.size ≤ gb435)); have n3_ := Aside0.mk ((by rw [hg]; exact (below_size (bw_ HB)) : w.heap.size ≤ gb435)); clear HB; have HB := n0_; have BK435 := n1_; have GW435 := n2_; have GE435 := n3_; clear n0_ n1_ n2_ n3_; clear hb hbox hg))
 have n0_ := Aside0.mk (blk_drew BK435.out)
 have n1_ := Aside0.mk (below_drew1 HB.out)
 clear BK435
 clear HB
 have BK435 := n0_
 have HB := n1_
 clear n0_ n1_
 refine start_ (n := 36) (S := fun w' => w'.cell? ⟨gb435, 0, none⟩ = some (.string a0_0) ∧ w'.cell? ⟨gb435, 1, none⟩ = some (.string a0_1) ∧ w'.cell? ⟨gb435, 2, none⟩ = some (.slice A0_2 l0_2.length c0_2) ∧ w'.cell? ⟨gb435, 3, none⟩ = some (.string a0_3) ∧ w'.cell? ⟨gb435, 4, none⟩ = some (.slice A0_4 l0_4.length c0_4)) (ds := []) (bs_ 36 0) (by kernel_rfl) rfl (by kernel_rfl) ⟨(blk_cell BK435.out 0).trans rfl, (blk_cell BK435.out 1).trans rfl, (blk_cell BK435.out 2).trans rfl, (blk_cell BK435.out 3).trans rfl, (blk_cell BK435.out 4).trans rfl⟩ (fun hHeld => ?_); refine with_tabW impl_itemOk.tab1 impl_itemOk.bits1 (fun HT_ HW_ => ?_)
 generalize w36.drew = w37 at BK435 HB hHeld ⊢
 refine pS_ 0 ?_
 refine t5_ 1 hHeld ?_
 refine oS_ 2 (fun K hK => ?_)
 refine gS_ Tryz.func62 #[.string a0_0] ?_
 with_reducible refine (impl_AddressOk.calls k a0_0 true _ A3.out).mono ?_
 rintro e w' ⟨rfl, ⟨nd, rfl⟩⟩
 refine ⟨_, rfl, ?_⟩
 refine hK.out _ _ ⟨(blk_cell BK435.out 0).trans rfl, (blk_cell BK435.out 1).trans rfl, (blk_cell BK435.out 2).trans rfl, (blk_cell BK435.out 3).trans rfl, (blk_cell BK435.out 4).trans rfl⟩ (fun hHeld => ?_)
 clear hK K
 refine nS_ 7 ?_
 refine pS_ 3 ?_
 refine pS_ 4 ?_
 refine t5_ 5 hHeld ?_
 refine oS_ 6 (fun K hK => ?_)
 refine gS_ Tryz.func63 #[.slice A0_4 l0_4.length c0_4] ?_
 with_reducible refine (impl_TreeOk.calls k _ _ l0_4 false _ ?side1 ?side2 ?side3 A5.out).mono ?_
 (case side1 => refine EnvW.below HE.out ?_; repeat (first | (with_reducible first | exact HB.out | apply below_alloc | apply pw_below_drewN | apply below_drew1 | refine below_set ?_ GE435.out) | exact HB.out))
 (case side2 => repeat (first | exact (Kd.C_below HR0_4.out (bw1_ HB GE435)) | (with_reducible refine Kd.C_alloc ?_ _) | (with_reducible refine Kd.C_drewN ?_ _) | (with_reducible refine Kd.C_drew ?_)))
 (case side3 => exact HC0_4.out)
 rintro e w38 ⟨rfl, hb⟩
 refine ⟨_, rfl, ?_⟩
 have n0_ := Aside0.mk (blk_below (g := gb435) (o := .cells #[.string a0_0, .string a0_1, .slice A0_2 l0_2.length c0_2, .string a0_3, .slice A0_4 l0_4.length c0_4] 54 (0, 0)) (by (with_reducible repeat (first | refine blk_drewN ?_ _ | refine blk_drew ?_ | refine blk_alloc ?_ _)); exact BK435.out) hb)
 have n1_ := Aside0.mk (below_step (bw1_ HB GE435) hb)
 clear BK435
 clear HB
 have BK435 := n0_
 have HB := n1_
 clear n0_ n1_
 (try clear hb)
 (try clear hb2)
 (try clear hk)
 (try clear hi)
 refine hK.out _ _ ⟨(blk_cell BK435.out 0).trans rfl, (blk_cell BK435.out 1).trans rfl, (blk_cell BK435.out 2).trans rfl, (blk_cell BK435.out 3).trans rfl, (blk_cell BK435.out 4).trans rfl⟩ (fun hHeld => ?_)
 clear hK K
 refine nS_ 11 ?_
 refine pS_ 7 ?_
 refine pS_ 8 ?_
 refine pU_ 9 ?_
 refine pU_ 10 ?_
 refine pU_ 11 ?_
 refine pU_ 12 ?_
 refine pU_ 13 ?_
 refine pU_ 14 ?_
 refine pS_ 15 ?_
 refine pS_ 16 ?_
 refine pU_ 17 ?_
 refine pU_ 18 ?_
 refine pU_ 19 ?_
 refine pU_ 20 ?_
 refine pU_ 21 ?_
 refine pU_ 22 ?_
 refine pU_ 23 ?_
 refine pS_ 24 ?_
 refine pS_ 25 ?_
 refine pU_ 26 ?_
 refine pU_ 27 ?_
 refine pU_ 28 ?_
 refine pU_ 29 ?_
 refine pU_ 30 ?_
 refine pU_ 31 ?_
 refine pU_ 32 ?_
 refine pU_ 33 ?_
 refine pS_ 34 ?_
 refine pS_ 35 ?_
 refine done_ (done_of HT_.out (by kernel_rfl)) ?_
 try go_wp2
 go_ret
 exact ⟨eR_, bw1_ HB GE435⟩}}
 {
 replace c4 := Bool.eq_false_iff.mpr c4
 subst c4
 rw [if_neg (show ¬ (false = true) by decide)] at H
 obtain rfl := Option.some.inj H
 go_enter Tryz.func35, Tryz.ntmps35
 try go_wp2_with (first | ((with_reducible refine gate_dst (N := 2) rfl ?_); refine box_event ?hg (N := 2) ?hd (cs := #[.string a0_0, .string a0_1, .slice A0_2 l0_2.length c0_2, .string a0_3, .slice A0_4 l0_4.length c0_4]) (t := 54) ?hr ?_; (case hd => rfl); (case hg => rfl); (case hr => first | (go_simp; done) | (go_simp; rfl)); intro gb435 hg w39 hbox hb; have n0_ := Aside0.mk (below_step (bw_ HB) hb); have n1_ := Aside0.mk (hbox); have n2_ := Aside0.mk ((by rw [hg]; exact (below_size (bw_ HB)) : w.heap.size ≤ gb435)); have n3_ := Aside0.mk ((by rw [hg]; exact (below_size (bw_ HB)) : w.heap.size ≤ gb435)); clear HB; have HB := n0_; have BK435 := n1_; have GW435 := n2_; have GE435 := n3_; clear n0_ n1_ n2_ n3_; clear hb hbox hg))
 have n0_ := Aside0.mk (blk_drew BK435.out)
 have n1_ := Aside0.mk (below_drew1 HB.out)
 clear BK435
 clear HB
 have BK435 := n0_
 have HB := n1_
 clear n0_ n1_
 refine start_ (n := 36) (S := fun w' => w'.cell? ⟨gb435, 0, none⟩ = some (.string a0_0) ∧ w'.cell? ⟨gb435, 1, none⟩ = some (.string a0_1) ∧ w'.cell? ⟨gb435, 2, none⟩ = some (.slice A0_2 l0_2.length c0_2) ∧ w'.cell? ⟨gb435, 3, none⟩ = some (.string a0_3) ∧ w'.cell? ⟨gb435, 4, none⟩ = some (.slice A0_4 l0_4.length c0_4)) (ds := []) (bs_ 36 0) (by kernel_rfl) rfl (by kernel_rfl) ⟨(blk_cell BK435.out 0).trans rfl, (blk_cell BK435.out 1).trans rfl, (blk_cell BK435.out 2).trans rfl, (blk_cell BK435.out 3).trans rfl, (blk_cell BK435.out 4).trans rfl⟩ (fun hHeld => ?_); refine with_tabW impl_itemOk.tab1 impl_itemOk.bits1 (fun HT_ HW_ => ?_)
 generalize w39.drew = w40 at BK435 HB hHeld ⊢
 refine pS_ 0 ?_
 refine t5_ 1 hHeld ?_
 refine oS_ 2 (fun K hK => ?_)
 refine gS_ Tryz.func62 #[.string a0_0] ?_
 with_reducible refine (impl_AddressOk.calls k a0_0 false _ A3.out).mono ?_
 rintro e w' ⟨rfl, ⟨nd, rfl⟩⟩
 refine ⟨_, rfl, ?_⟩
 refine hK.out _ _ ⟨(blk_cell BK435.out 0).trans rfl, (blk_cell BK435.out 1).trans rfl, (blk_cell BK435.out 2).trans rfl, (blk_cell BK435.out 3).trans rfl, (blk_cell BK435.out 4).trans rfl⟩ (fun hHeld => ?_)
 clear hK K
 refine nS_ 7 ?_
 refine pS_ 3 ?_
 refine pU_ 4 ?_
 refine pU_ 5 ?_
 refine pU_ 6 ?_
 refine pS_ 7 ?_
 refine pS_ 8 ?_
 refine pU_ 9 ?_
 refine pU_ 10 ?_
 refine pU_ 11 ?_
 refine pU_ 12 ?_
 refine pU_ 13 ?_
 refine pU_ 14 ?_
 refine pS_ 15 ?_
 refine pS_ 16 ?_
 refine pU_ 17 ?_
 refine pU_ 18 ?_
 refine pU_ 19 ?_
 refine pU_ 20 ?_
 refine pU_ 21 ?_
 refine pU_ 22 ?_
 refine pU_ 23 ?_
 refine pS_ 24 ?_
 refine pS_ 25 ?_
 refine pU_ 26 ?_
 refine pU_ 27 ?_
 refine pU_ 28 ?_
 refine pU_ 29 ?_
 refine pU_ 30 ?_
 refine pU_ 31 ?_
 refine pU_ 32 ?_
 refine pU_ 33 ?_
 refine pS_ 34 ?_
 refine pS_ 35 ?_
 refine done_ (done_of HT_.out (by kernel_rfl)) ?_
 try go_wp2
 go_ret
 exact ⟨eR_, bw1_ HB GE435⟩
}
end Go.Proofs.YtkhhkpjeafknpaaGreatDoor.P
end

section
namespace Go.Proofs.YtkhhkpjeafknpaaGreatDoor.P
open Go.RowKit Go.Proofs.YtkhhkpjeafknpaaGreatDoorW.PrintWords Go.Proofs.YtkhhkpjeafknpaaGreatDoorW.PrintLast Go.Proofs.YtkhhkpjeafknpaaGreatDoorW.PrintMore Go.Proofs.YtkhhkpjeafknpaaGreatDoorM
attribute [local go_sem] max2_int min2_int max_two min_two max_three min_three max_four min_four
set_option linter.unusedVariables false
set_option linter.unusedSimpArgs false
def impl_StoreOk.l0 : Nat → List ByteArray → List (S54) → Int → Int → Option (Bool)
 | 0, _, _, _, _ => none
 | k + 1, x3, x14, x15, x16 => if x16 < x15 then (if 0 ≤ x16 then (if x16 < (x14.length : Int) then ((impl_itemOk.f k ((rd_T54 x14 x16).f0) ((rd_T54 x14 x16).f1) ((rd_T54 x14 x16).f2) ((rd_T54 x14 x16).f3) ((rd_T54 x14 x16).f4) x3).bind fun t450 => (if t450 = true then (impl_StoreOk.l0 k x3 x14 x15 (wrap64 (x16 + 1))) else (some false))) else (none)) else (none)) else (some true)
def impl_StoreOk.f (k : Nat) (l0 : List (S54)) : Option (Bool) := if (l0.length : Int) > 300 then (some false) else ((impl_storePaths.f k l0).bind fun t444 => ((impl_rising_hs.f k t444).bind fun t447 => (if t447 = true then (impl_StoreOk.l0 k t444 l0 (l0.length : Int) 0) else (some false))))
set_option maxHeartbeats 8000000 in
set_option maxRecDepth 100000 in
theorem impl_StoreOk.calls (k : Nat) (A0 : Option Addr) (c0 : Nat) (l0 : List (S54)) (r : Bool) (w : World) (hE : EnvW w) (hr0 : Kd.C k54 w A0 l0.length l0) (hc0 : l0.length ≤ c0) (h : impl_StoreOk.f k l0 = some r) :
 Calls Tryz.prog 10 #[.slice A0 l0.length c0] w fun e w' => e = .returned (.bool r) ∧ Below w.heap.size w w' := by
 have hu54 := Tryz.underlying54
 have HE := Aside0.mk hE
 clear hE
 have HR0 := Aside0.mk hr0
 have HC0 := Aside0.mk hc0
 clear hr0 hc0
 have HB := Aside0.mk (Below.refl w.heap.size w)
 have H : (if (l0.length : Int) > 300 then (some false) else ((impl_storePaths.f k l0).bind fun t444 => ((impl_rising_hs.f k t444).bind fun t447 => (if t447 = true then (impl_StoreOk.l0 k t444 l0 (l0.length : Int) 0) else (some false))))) = some r := h
 clear h
 by_cases c2 : (l0.length : Int) > 300
 {
 rw [if_pos c2] at H
 have c2b0 : decide (300 < (l0.length : Int)) = true := decide_eq_true c2
 have c2b1 : decide (300 < l0.length) = true := decide_eq_true (by omega)
 clear c2
 obtain rfl := Option.some.inj H
 go_enter Tryz.func10, Tryz.ntmps10
 go_wp2
 go_ret
 exact ⟨eR_, bw_ HB⟩}
 {
 rw [if_neg c2] at H
 have c2b0 : decide (300 < (l0.length : Int)) = false := decide_eq_false c2
 have c2b1 : decide (300 < l0.length) = false := decide_eq_false (by omega)
 clear c2
 replace H := Option.bind_eq_some_iff.mp H
 obtain ⟨t444, A30, H⟩ := H
 have A3 := Aside0.mk A30
 clear A30
 replace H := Option.bind_eq_some_iff.mp H
 obtain ⟨t447, A40, H⟩ := H
 have A4 := Aside0.mk A40
 clear A40
 by_cases c5 : t447 = true
 {
 subst c5
 rw [if_pos rfl] at H
 have H' := Aside0.mk H
 clear H
 go_enter Tryz.func10, Tryz.ntmps10
 go_wp2_with (first | ((with_reducible refine gate_callee (f := 33) rfl ?_); refine gL_ (some 10) Tryz.func33 #[.slice A0 l0.length c0] ?_; (with_reducible refine (impl_storePaths.calls k _ _ l0 t444 _ ?side1 ?side2 A3.out).mono ?_); (case side1 => repeat (first | exact HR0.out | (with_reducible refine Kd.C_alloc ?_ _) | (with_reducible refine Kd.C_drewN ?_ _) | (with_reducible refine Kd.C_drew ?_))); (case side2 => exact HC0.out); rintro e w6 ⟨v445, rfl, ho0, hb⟩; refine ⟨_, rfl, ?_⟩; have n0_ := Aside0.mk (Kd.R_lower ho0 (below_size (bw_ HB))); have n1_ := Aside0.mk (below_step (bw_ HB) hb); clear HB; have HO446 := n0_; have HB := n1_; clear n0_ n1_; (try clear hb); (try clear hb2); (try clear hk); (try clear hi); (try clear ho0); obtain ⟨Ao7, co7, eo7⟩ := Kd.R_slice HO446.out; subst eo7) | ((with_reducible refine gate_callee (f := 34) rfl ?_); refine gL_ (some 12) Tryz.func34 #[.slice Ao7 t444.length co7] ?_; (with_reducible refine (impl_rising_hs.calls k _ _ t444 true _ ?side1 ?side2 A4.out).mono ?_); (case side1 => repeat (first | exact (Kd.R_reads' HO446.out).2.2 | (with_reducible refine Kd.C_alloc ?_ _) | (with_reducible refine Kd.C_drewN ?_ _) | (with_reducible refine Kd.C_drew ?_))); (case side2 => exact (Kd.R_reads' HO446.out).2.1); rintro e w' ⟨rfl, ⟨nd, rfl⟩⟩; refine ⟨_, rfl, ?_⟩))
 go_loopg [16] k (fun kq v16 w' => ∃ (x16_1 : Int), v16 = .int .i64 x16_1 ∧ Aside0 (impl_StoreOk.l0 kq t444 l0 (l0.length : Int) x16_1 = some r) ∧ Aside0 (kq ≤ k) ∧ Aside0 (Kd.R Kd.string 9 w' w.heap.size (fun _ => True) (.slice Ao7 t444.length co7) t444) ∧ Aside0 (Below w.heap.size w w'))
 case atStart => exact ⟨(0), (by first | rfl | (simp; done) | (simp [*]; done)), H', ⟨Nat.le_refl _⟩, ⟨by (with_reducible repeat (first | apply Kd.R_alloc | apply Kd.R_drewN | apply Kd.R_drew)); exact HO446.out⟩, ⟨bw_ HB⟩⟩
 case round =>
  clear H'
  try clear c1
  try clear c2
  try clear c2b0
  try clear c2b1
  try clear p2
  try clear c3
  try clear c5
  obtain ⟨x16_1, rfl, HA, HK1, HO_3, HB⟩ := hrel
  cases gk with
  | zero => exact absurd HA.out (by simp [impl_StoreOk.l0])
  | succ k1 =>
   have H := HA.out
   clear HA
   simp only [impl_StoreOk.l0] at H
   by_cases c8 : x16_1 < (l0.length : Int)
   {
   rw [if_pos c8] at H
   have c8b0 : decide (x16_1 < (l0.length : Int)) = true := decide_eq_true c8
   clear c8
   by_cases c9 : 0 ≤ x16_1
   {
   rw [if_pos c9] at H
   have c9b0 : decide (0 ≤ x16_1) = true := decide_eq_true c9
   clear c9
   by_cases c10 : x16_1 < (l0.length : Int)
   {
   rw [if_pos c10] at H
   have c10b0 : decide (x16_1 < (l0.length : Int)) = true := decide_eq_true c10
   clear c10
   replace H := Option.bind_eq_some_iff.mp H
   obtain ⟨t450, A110, H⟩ := H
   have A11 := Aside0.mk A110
   clear A110
   by_cases c12 : t450 = true
   {
   subst c12
   rw [if_pos rfl] at H
   have H' := Aside0.mk H
   clear H
   have p448 : 0 ≤ (x16_1 : Int) := dA_
   have q448 : x16_1 < (l0.length : Int) := dA_
   obtain ⟨ad448, A448_2, c448_2, A448_4, c448_4, e448, hx448_0, hx448_1, hx448_2, hx448_3, hx448_4, hl448_2, hi448_2, hl448_4, hi448_4⟩ := at_T54 HR0.out x16_1 p448 q448
   cases e448
   replace hx448_0 := hX_ HB hx448_0
   replace hx448_1 := hX_ HB hx448_1
   replace hx448_2 := hX_ HB hx448_2
   replace hx448_3 := hX_ HB hx448_3
   replace hx448_4 := hX_ HB hx448_4
   have HR448_2 := Aside0.mk hi448_2
   have HC448_2 := Aside0.mk hl448_2
   clear hi448_2 hl448_2
   have HR448_4 := Aside0.mk hi448_4
   have HC448_4 := Aside0.mk hl448_4
   clear hi448_4 hl448_4
   replace p448 := eq_true p448
   replace q448 := eq_true q448
   go_wp2_with (first | ((with_reducible refine gate_dst (N := 5) rfl ?_); refine box_event ?hg (N := 5) ?hd (cs := #[.string (⟨#[]⟩ : ByteArray), .string (⟨#[]⟩ : ByteArray), .slice none 0 0, .string (⟨#[]⟩ : ByteArray), .slice none 0 0]) (t := 54) ?hr ?_; (case hd => rfl); (case hg => rfl); (case hr => first | (go_simp; done) | (go_simp; rfl)); intro gb449 hg w13 hbox hb; have n0_ := Aside0.mk (Kd.R_below (by (with_reducible repeat (first | apply Kd.R_alloc | apply Kd.R_drewN | apply Kd.R_drew)); exact HO_3.out) hb); have n1_ := Aside0.mk (below_step (bw_ HB) hb); have n2_ := Aside0.mk (hbox); have n3_ := Aside0.mk ((by rw [hg]; exact (below_size (bw_ HB)) : w.heap.size ≤ gb449)); have n4_ := Aside0.mk ((by rw [hg]; exact (below_size (bw_ HB)) : w.heap.size ≤ gb449)); clear HO_3; clear HB; have HO_3 := n0_; have HB := n1_; have BK449 := n2_; have GW449 := n3_; have GE449 := n4_; clear n0_ n1_ n2_ n3_ n4_; clear hb hbox hg; have hcz14_0 : w13.cell? ⟨gb449, 0, none⟩ = some (.string (⟨#[]⟩ : ByteArray)) := (blk_cell BK449.out 0).trans rfl; have hcz14_1 : w13.cell? ⟨gb449, 1, none⟩ = some (.string (⟨#[]⟩ : ByteArray)) := (blk_cell BK449.out 1).trans rfl; have hcz14_2 : w13.cell? ⟨gb449, 2, none⟩ = some (.slice none 0 0) := (blk_cell BK449.out 2).trans rfl; have hcz14_3 : w13.cell? ⟨gb449, 3, none⟩ = some (.string (⟨#[]⟩ : ByteArray)) := (blk_cell BK449.out 3).trans rfl; have hcz14_4 : w13.cell? ⟨gb449, 4, none⟩ = some (.slice none 0 0) := (blk_cell BK449.out 4).trans rfl; have hfz14_0 := blk_frozen BK449.out 0; have hfz14_1 := blk_frozen BK449.out 1; have hfz14_2 := blk_frozen BK449.out 2; have hfz14_3 := blk_frozen BK449.out 3; have hfz14_4 := blk_frozen BK449.out 4) | ((with_reducible refine gate_callee (f := 35) rfl ?_); refine gL_ (some 22) Tryz.func35 #[.agg #[.string ((rd_T54 l0 x16_1).f0), .string ((rd_T54 l0 x16_1).f1), .slice A448_2 ((rd_T54 l0 x16_1).f2).length c448_2, .string ((rd_T54 l0 x16_1).f3), .slice A448_4 ((rd_T54 l0 x16_1).f4).length c448_4], .slice Ao7 t444.length co7] ?_; (with_reducible refine (impl_itemOk.calls k1 ((rd_T54 l0 x16_1).f0) ((rd_T54 l0 x16_1).f1) _ _ ((rd_T54 l0 x16_1).f2) ((rd_T54 l0 x16_1).f3) _ _ ((rd_T54 l0 x16_1).f4) _ _ t444 true _ ?side1 ?side2 ?side3 ?side4 ?side5 ?side6 ?side7 A11.out).mono ?_); (case side1 => refine EnvW.below HE.out ?_; repeat (first | (with_reducible first | exact HB.out | apply below_alloc | apply pw_below_drewN | apply below_drew1 | refine below_set ?_ GE449.out) | exact HB.out)); (case side2 => exact Kd.C_below HR448_2.out (bw1_ HB GE449)); (case side3 => exact HC448_2.out); (case side4 => exact Kd.C_below HR448_4.out (bw1_ HB GE449)); (case side5 => exact HC448_4.out); (case side6 => refine (Kd.R_reads' (e := 9) (base := w.heap.size) (ok := fun k_ => True) (n := t444.length) (c := co7) ?_).2.2; exact (by (with_reducible repeat (first | apply Kd.R_alloc | apply Kd.R_drewN | apply Kd.R_drew)); exact (Kd.R_mono (Kd.R_far (p := ⟨gb449, 4, none⟩) (Kd.R_far (p := ⟨gb449, 3, none⟩) (Kd.R_far (p := ⟨gb449, 2, none⟩) (Kd.R_far (p := ⟨gb449, 1, none⟩) (Kd.R_far (p := ⟨gb449, 0, none⟩) (Kd.R_types HO_3.out BK449.out (by decide)) (fun _ hk => hk.2) (.string ((rd_T54 l0 x16_1).f0))) (fun _ hk => hk.2) (.string ((rd_T54 l0 x16_1).f1))) (fun _ hk => hk.2) (.slice A448_2 ((rd_T54 l0 x16_1).f2).length c448_2)) (fun _ hk => hk.2) (.string ((rd_T54 l0 x16_1).f3))) (fun _ hk => hk.2) (.slice A448_4 ((rd_T54 l0 x16_1).f4).length c448_4)) (fun _ h_ => h_.1)))); (case side7 => exact (Kd.R_reads' HO_3.out).2.1); rintro e w15 ⟨rfl, hb⟩; refine ⟨_, rfl, ?_⟩; have n0_ := Aside0.mk (Kd.R_below (by (with_reducible repeat (first | apply Kd.R_alloc | apply Kd.R_drewN | apply Kd.R_drew)); exact (Kd.R_mono (Kd.R_far (p := ⟨gb449, 4, none⟩) (Kd.R_far (p := ⟨gb449, 3, none⟩) (Kd.R_far (p := ⟨gb449, 2, none⟩) (Kd.R_far (p := ⟨gb449, 1, none⟩) (Kd.R_far (p := ⟨gb449, 0, none⟩) (Kd.R_types HO_3.out BK449.out (by decide)) (fun _ hk => hk.2) (.string ((rd_T54 l0 x16_1).f0))) (fun _ hk => hk.2) (.string ((rd_T54 l0 x16_1).f1))) (fun _ hk => hk.2) (.slice A448_2 ((rd_T54 l0 x16_1).f2).length c448_2)) (fun _ hk => hk.2) (.string ((rd_T54 l0 x16_1).f3))) (fun _ hk => hk.2) (.slice A448_4 ((rd_T54 l0 x16_1).f4).length c448_4)) (fun _ h_ => h_.1))) hb); have n1_ := Aside0.mk (blk_below (g := gb449) (o := .cells #[.string ((rd_T54 l0 x16_1).f0), .string ((rd_T54 l0 x16_1).f1), .slice A448_2 ((rd_T54 l0 x16_1).f2).length c448_2, .string ((rd_T54 l0 x16_1).f3), .slice A448_4 ((rd_T54 l0 x16_1).f4).length c448_4] 54 (0, 0)) (by (with_reducible repeat (first | refine blk_drewN ?_ _ | refine blk_drew ?_ | refine blk_alloc ?_ _)); refine blk_put (cs := #[.string ((rd_T54 l0 x16_1).f0), .string ((rd_T54 l0 x16_1).f1), .slice A448_2 ((rd_T54 l0 x16_1).f2).length c448_2, .string ((rd_T54 l0 x16_1).f3), .slice none 0 0]) ?_ 4 _ rfl; (with_reducible repeat (first | refine blk_drewN ?_ _ | refine blk_drew ?_ | refine blk_alloc ?_ _)); refine blk_put (cs := #[.string ((rd_T54 l0 x16_1).f0), .string ((rd_T54 l0 x16_1).f1), .slice A448_2 ((rd_T54 l0 x16_1).f2).length c448_2, .string (⟨#[]⟩ : ByteArray), .slice none 0 0]) ?_ 3 _ rfl; (with_reducible repeat (first | refine blk_drewN ?_ _ | refine blk_drew ?_ | refine blk_alloc ?_ _)); refine blk_put (cs := #[.string ((rd_T54 l0 x16_1).f0), .string ((rd_T54 l0 x16_1).f1), .slice none 0 0, .string (⟨#[]⟩ : ByteArray), .slice none 0 0]) ?_ 2 _ rfl; (with_reducible repeat (first | refine blk_drewN ?_ _ | refine blk_drew ?_ | refine blk_alloc ?_ _)); refine blk_put (cs := #[.string ((rd_T54 l0 x16_1).f0), .string (⟨#[]⟩ : ByteArray), .slice none 0 0, .string (⟨#[]⟩ : ByteArray), .slice none 0 0]) ?_ 1 _ rfl; (with_reducible repeat (first | refine blk_drewN ?_ _ | refine blk_drew ?_ | refine blk_alloc ?_ _)); refine blk_put (cs := #[.string (⟨#[]⟩ : ByteArray), .string (⟨#[]⟩ : ByteArray), .slice none 0 0, .string (⟨#[]⟩ : ByteArray), .slice none 0 0]) ?_ 0 _ rfl; (with_reducible repeat (first | refine blk_drewN ?_ _ | refine blk_drew ?_ | refine blk_alloc ?_ _)); exact BK449.out) hb); have n2_ := Aside0.mk (below_step (bw1_ HB GE449) hb); clear HO_3; clear BK449; clear HB; have HO_3 := n0_; have BK449 := n1_; have HB := n2_; clear n0_ n1_ n2_; (try clear hb); (try clear hb2); (try clear hk); (try clear hi)))
   go_roundg k1
   case measure => have := HK1.out; omega
   case rel => exact ⟨(wrap64 (x16_1 + 1)), (by first | rfl | (simp; done) | (simp [*]; done)), H', ⟨by have := HK1.out; omega⟩, ⟨by (with_reducible repeat (first | apply Kd.R_alloc | apply Kd.R_drewN | apply Kd.R_drew)); exact HO_3.out⟩, ⟨bw1_ HB GE449⟩⟩}
   {
   replace c12 := Bool.eq_false_iff.mpr c12
   subst c12
   rw [if_neg (show ¬ (false = true) by decide)] at H
   obtain rfl := Option.some.inj H
   have p448 : 0 ≤ (x16_1 : Int) := dA_
   have q448 : x16_1 < (l0.length : Int) := dA_
   obtain ⟨ad448, A448_2, c448_2, A448_4, c448_4, e448, hx448_0, hx448_1, hx448_2, hx448_3, hx448_4, hl448_2, hi448_2, hl448_4, hi448_4⟩ := at_T54 HR0.out x16_1 p448 q448
   cases e448
   replace hx448_0 := hX_ HB hx448_0
   replace hx448_1 := hX_ HB hx448_1
   replace hx448_2 := hX_ HB hx448_2
   replace hx448_3 := hX_ HB hx448_3
   replace hx448_4 := hX_ HB hx448_4
   have HR448_2 := Aside0.mk hi448_2
   have HC448_2 := Aside0.mk hl448_2
   clear hi448_2 hl448_2
   have HR448_4 := Aside0.mk hi448_4
   have HC448_4 := Aside0.mk hl448_4
   clear hi448_4 hl448_4
   replace p448 := eq_true p448
   replace q448 := eq_true q448
   go_wp2_with (first | ((with_reducible refine gate_dst (N := 5) rfl ?_); refine box_event ?hg (N := 5) ?hd (cs := #[.string (⟨#[]⟩ : ByteArray), .string (⟨#[]⟩ : ByteArray), .slice none 0 0, .string (⟨#[]⟩ : ByteArray), .slice none 0 0]) (t := 54) ?hr ?_; (case hd => rfl); (case hg => rfl); (case hr => first | (go_simp; done) | (go_simp; rfl)); intro gb449 hg w16 hbox hb; have n0_ := Aside0.mk (Kd.R_below (by (with_reducible repeat (first | apply Kd.R_alloc | apply Kd.R_drewN | apply Kd.R_drew)); exact HO_3.out) hb); have n1_ := Aside0.mk (below_step (bw_ HB) hb); have n2_ := Aside0.mk (hbox); have n3_ := Aside0.mk ((by rw [hg]; exact (below_size (bw_ HB)) : w.heap.size ≤ gb449)); have n4_ := Aside0.mk ((by rw [hg]; exact (below_size (bw_ HB)) : w.heap.size ≤ gb449)); clear HO_3; clear HB; have HO_3 := n0_; have HB := n1_; have BK449 := n2_; have GW449 := n3_; have GE449 := n4_; clear n0_ n1_ n2_ n3_ n4_; clear hb hbox hg; have hcz17_0 : w16.cell? ⟨gb449, 0, none⟩ = some (.string (⟨#[]⟩ : ByteArray)) := (blk_cell BK449.out 0).trans rfl; have hcz17_1 : w16.cell? ⟨gb449, 1, none⟩ = some (.string (⟨#[]⟩ : ByteArray)) := (blk_cell BK449.out 1).trans rfl; have hcz17_2 : w16.cell? ⟨gb449, 2, none⟩ = some (.slice none 0 0) := (blk_cell BK449.out 2).trans rfl; have hcz17_3 : w16.cell? ⟨gb449, 3, none⟩ = some (.string (⟨#[]⟩ : ByteArray)) := (blk_cell BK449.out 3).trans rfl; have hcz17_4 : w16.cell? ⟨gb449, 4, none⟩ = some (.slice none 0 0) := (blk_cell BK449.out 4).trans rfl; have hfz17_0 := blk_frozen BK449.out 0; have hfz17_1 := blk_frozen BK449.out 1; have hfz17_2 := blk_frozen BK449.out 2; have hfz17_3 := blk_frozen BK449.out 3; have hfz17_4 := blk_frozen BK449.out 4) | ((with_reducible refine gate_callee (f := 35) rfl ?_); refine gL_ (some 22) Tryz.func35 #[.agg #[.string ((rd_T54 l0 x16_1).f0), .string ((rd_T54 l0 x16_1).f1), .slice A448_2 ((rd_T54 l0 x16_1).f2).length c448_2, .string ((rd_T54 l0 x16_1).f3), .slice A448_4 ((rd_T54 l0 x16_1).f4).length c448_4], .slice Ao7 t444.length co7] ?_; (with_reducible refine (impl_itemOk.calls k1 ((rd_T54 l0 x16_1).f0) ((rd_T54 l0 x16_1).f1) _ _ ((rd_T54 l0 x16_1).f2) ((rd_T54 l0 x16_1).f3) _ _ ((rd_T54 l0 x16_1).f4) _ _ t444 false _ ?side1 ?side2 ?side3 ?side4 ?side5 ?side6 ?side7 A11.out).mono ?_); (case side1 => refine EnvW.below HE.out ?_; repeat (first | (with_reducible first | exact HB.out | apply below_alloc | apply pw_below_drewN | apply below_drew1 | refine below_set ?_ GE449.out) | exact HB.out)); (case side2 => exact Kd.C_below HR448_2.out (bw1_ HB GE449)); (case side3 => exact HC448_2.out); (case side4 => exact Kd.C_below HR448_4.out (bw1_ HB GE449)); (case side5 => exact HC448_4.out); (case side6 => refine (Kd.R_reads' (e := 9) (base := w.heap.size) (ok := fun k_ => True) (n := t444.length) (c := co7) ?_).2.2; exact (by (with_reducible repeat (first | apply Kd.R_alloc | apply Kd.R_drewN | apply Kd.R_drew)); exact (Kd.R_mono (Kd.R_far (p := ⟨gb449, 4, none⟩) (Kd.R_far (p := ⟨gb449, 3, none⟩) (Kd.R_far (p := ⟨gb449, 2, none⟩) (Kd.R_far (p := ⟨gb449, 1, none⟩) (Kd.R_far (p := ⟨gb449, 0, none⟩) (Kd.R_types HO_3.out BK449.out (by decide)) (fun _ hk => hk.2) (.string ((rd_T54 l0 x16_1).f0))) (fun _ hk => hk.2) (.string ((rd_T54 l0 x16_1).f1))) (fun _ hk => hk.2) (.slice A448_2 ((rd_T54 l0 x16_1).f2).length c448_2)) (fun _ hk => hk.2) (.string ((rd_T54 l0 x16_1).f3))) (fun _ hk => hk.2) (.slice A448_4 ((rd_T54 l0 x16_1).f4).length c448_4)) (fun _ h_ => h_.1)))); (case side7 => exact (Kd.R_reads' HO_3.out).2.1); rintro e w18 ⟨rfl, hb⟩; refine ⟨_, rfl, ?_⟩; have n0_ := Aside0.mk (Kd.R_below (by (with_reducible repeat (first | apply Kd.R_alloc | apply Kd.R_drewN | apply Kd.R_drew)); exact (Kd.R_mono (Kd.R_far (p := ⟨gb449, 4, none⟩) (Kd.R_far (p := ⟨gb449, 3, none⟩) (Kd.R_far (p := ⟨gb449, 2, none⟩) (Kd.R_far (p := ⟨gb449, 1, none⟩) (Kd.R_far (p := ⟨gb449, 0, none⟩) (Kd.R_types HO_3.out BK449.out (by decide)) (fun _ hk => hk.2) (.string ((rd_T54 l0 x16_1).f0))) (fun _ hk => hk.2) (.string ((rd_T54 l0 x16_1).f1))) (fun _ hk => hk.2) (.slice A448_2 ((rd_T54 l0 x16_1).f2).length c448_2)) (fun _ hk => hk.2) (.string ((rd_T54 l0 x16_1).f3))) (fun _ hk => hk.2) (.slice A448_4 ((rd_T54 l0 x16_1).f4).length c448_4)) (fun _ h_ => h_.1))) hb); have n1_ := Aside0.mk (blk_below (g := gb449) (o := .cells #[.string ((rd_T54 l0 x16_1).f0), .string ((rd_T54 l0 x16_1).f1), .slice A448_2 ((rd_T54 l0 x16_1).f2).length c448_2, .string ((rd_T54 l0 x16_1).f3), .slice A448_4 ((rd_T54 l0 x16_1).f4).length c448_4] 54 (0, 0)) (by (with_reducible repeat (first | refine blk_drewN ?_ _ | refine blk_drew ?_ | refine blk_alloc ?_ _)); refine blk_put (cs := #[.string ((rd_T54 l0 x16_1).f0), .string ((rd_T54 l0 x16_1).f1), .slice A448_2 ((rd_T54 l0 x16_1).f2).length c448_2, .string ((rd_T54 l0 x16_1).f3), .slice none 0 0]) ?_ 4 _ rfl; (with_reducible repeat (first | refine blk_drewN ?_ _ | refine blk_drew ?_ | refine blk_alloc ?_ _)); refine blk_put (cs := #[.string ((rd_T54 l0 x16_1).f0), .string ((rd_T54 l0 x16_1).f1), .slice A448_2 ((rd_T54 l0 x16_1).f2).length c448_2, .string (⟨#[]⟩ : ByteArray), .slice none 0 0]) ?_ 3 _ rfl; (with_reducible repeat (first | refine blk_drewN ?_ _ | refine blk_drew ?_ | refine blk_alloc ?_ _)); refine blk_put (cs := #[.string ((rd_T54 l0 x16_1).f0), .string ((rd_T54 l0 x16_1).f1), .slice none 0 0, .string (⟨#[]⟩ : ByteArray), .slice none 0 0]) ?_ 2 _ rfl; (with_reducible repeat (first | refine blk_drewN ?_ _ | refine blk_drew ?_ | refine blk_alloc ?_ _)); refine blk_put (cs := #[.string ((rd_T54 l0 x16_1).f0), .string (⟨#[]⟩ : ByteArray), .slice none 0 0, .string (⟨#[]⟩ : ByteArray), .slice none 0 0]) ?_ 1 _ rfl; (with_reducible repeat (first | refine blk_drewN ?_ _ | refine blk_drew ?_ | refine blk_alloc ?_ _)); refine blk_put (cs := #[.string (⟨#[]⟩ : ByteArray), .string (⟨#[]⟩ : ByteArray), .slice none 0 0, .string (⟨#[]⟩ : ByteArray), .slice none 0 0]) ?_ 0 _ rfl; (with_reducible repeat (first | refine blk_drewN ?_ _ | refine blk_drew ?_ | refine blk_alloc ?_ _)); exact BK449.out) hb); have n2_ := Aside0.mk (below_step (bw1_ HB GE449) hb); clear HO_3; clear BK449; clear HB; have HO_3 := n0_; have BK449 := n1_; have HB := n2_; clear n0_ n1_ n2_; (try clear hb); (try clear hb2); (try clear hk); (try clear hi)))
   go_ret
   exact ⟨eR_, bw1_ HB GE449⟩}}
   {
   rw [if_neg c10] at H
   exact absurd H (by simp)}}
   {
   rw [if_neg c9] at H
   exact absurd H (by simp)}}
   {
   rw [if_neg c8] at H
   have c8b0 : decide (x16_1 < (l0.length : Int)) = false := decide_eq_false c8
   (try (have c8b0' := c8b0; simp only [hl448_4] at c8b0'))
   clear c8
   obtain rfl := Option.some.inj H
   go_wp2
   go_ret
   exact ⟨eR_, bw_ HB⟩}}
 {
 replace c5 := Bool.eq_false_iff.mpr c5
 subst c5
 rw [if_neg (show ¬ (false = true) by decide)] at H
 obtain rfl := Option.some.inj H
 go_enter Tryz.func10, Tryz.ntmps10
 go_wp2_with (first | ((with_reducible refine gate_callee (f := 33) rfl ?_); refine gL_ (some 10) Tryz.func33 #[.slice A0 l0.length c0] ?_; (with_reducible refine (impl_storePaths.calls k _ _ l0 t444 _ ?side1 ?side2 A3.out).mono ?_); (case side1 => repeat (first | exact HR0.out | (with_reducible refine Kd.C_alloc ?_ _) | (with_reducible refine Kd.C_drewN ?_ _) | (with_reducible refine Kd.C_drew ?_))); (case side2 => exact HC0.out); rintro e w19 ⟨v445, rfl, ho0, hb⟩; refine ⟨_, rfl, ?_⟩; have n0_ := Aside0.mk (Kd.R_lower ho0 (below_size (bw_ HB))); have n1_ := Aside0.mk (below_step (bw_ HB) hb); clear HB; have HO446 := n0_; have HB := n1_; clear n0_ n1_; (try clear hb); (try clear hb2); (try clear hk); (try clear hi); (try clear ho0); obtain ⟨Ao20, co20, eo20⟩ := Kd.R_slice HO446.out; subst eo20) | ((with_reducible refine gate_callee (f := 34) rfl ?_); refine gL_ (some 12) Tryz.func34 #[.slice Ao20 t444.length co20] ?_; (with_reducible refine (impl_rising_hs.calls k _ _ t444 false _ ?side1 ?side2 A4.out).mono ?_); (case side1 => repeat (first | exact (Kd.R_reads' HO446.out).2.2 | (with_reducible refine Kd.C_alloc ?_ _) | (with_reducible refine Kd.C_drewN ?_ _) | (with_reducible refine Kd.C_drew ?_))); (case side2 => exact (Kd.R_reads' HO446.out).2.1); rintro e w' ⟨rfl, ⟨nd, rfl⟩⟩; refine ⟨_, rfl, ?_⟩))
 go_ret
 exact ⟨eR_, bw_ HB⟩
}}
def laws_eqStringS.l0 : Nat → List ByteArray → List ByteArray → Int → Option (Bool)
 | 0, _, _, _ => none
 | k + 1, x0, x1, x5 => if x5 < (x0.length : Int) then (if 0 ≤ x5 then (if x5 < (x1.length : Int) then (if (rdOf ByteArray.empty x0 x5).toList = (rdOf ByteArray.empty x1 x5).toList then (laws_eqStringS.l0 k x0 x1 (wrap64 (x5 + 1))) else (some false)) else (none)) else (none)) else (some true)
def laws_eqStringS.f (k : Nat) (l0 : List ByteArray) (l1 : List ByteArray) : Option (Bool) := if (l0.length : Int) = (l1.length : Int) then (laws_eqStringS.l0 k l0 l1 0) else (some false)
set_option maxHeartbeats 8000000 in
set_option maxRecDepth 100000 in
theorem laws_eqStringS.calls (k : Nat) (A0 : Option Addr) (c0 : Nat) (l0 : List ByteArray) (A1 : Option Addr) (c1 : Nat) (l1 : List ByteArray) (r : Bool) (w : World) (hr0 : Kd.C Kd.string w A0 l0.length l0) (hc0 : l0.length ≤ c0) (hr1 : Kd.C Kd.string w A1 l1.length l1) (hc1 : l1.length ≤ c1) (h : laws_eqStringS.f k l0 l1 = some r) :
 Calls Tryz.prog 14 #[.slice A0 l0.length c0, .slice A1 l1.length c1] w fun e w' => e = .returned (.bool r) ∧ Drawn0 w w' := by
 have HR0 := Aside0.mk hr0
 have HC0 := Aside0.mk hc0
 clear hr0 hc0
 have HR1 := Aside0.mk hr1
 have HC1 := Aside0.mk hc1
 clear hr1 hc1
 have H : (if (l0.length : Int) = (l1.length : Int) then (laws_eqStringS.l0 k l0 l1 0) else (some false)) = some r := h
 clear h
 by_cases c3 : (l0.length : Int) = (l1.length : Int)
 {
 rw [if_pos c3] at H
 have c3b0 : ((l0.length : Int) == (l1.length : Int)) = true := beq_iff_eq.mpr c3
 have c3b1 : ((l0.length : Int) != (l1.length : Int)) = false := bne_eq_false_iff_eq.mpr c3
 have c3b2 : (l0.length == l1.length) = true := by first | simpa using c3 | (simp at c3 ⊢; omega)
 clear c3
 have H' := Aside0.mk H
 clear H
 go_enter Tryz.func14, Tryz.ntmps14
 go_wp2
 repeat (go_quiet (fail); try go_wp2)
 go_loopg [5] k (fun kq v5 w' => ∃ (x5_1 : Int), v5 = .int .i64 x5_1 ∧ Aside0 (laws_eqStringS.l0 kq l0 l1 x5_1 = some r) ∧ Aside0 (kq ≤ k) ∧ Drawn0 w w')
 case atStart => exact ⟨(0), (by first | rfl | (simp; done) | (simp [*]; done)), H', ⟨Nat.le_refl _⟩, dR_⟩
 case round =>
  clear H'
  try clear c1
  try clear p2
  try clear c3
  try clear c3b0
  try clear c3b1
  try clear c3b2
  obtain ⟨x5_1, rfl, HA, HK1, ⟨m1, rfl⟩⟩ := hrel
  cases gk with
  | zero => exact absurd HA.out (by simp [laws_eqStringS.l0])
  | succ k1 =>
   have H := HA.out
   clear HA
   simp only [laws_eqStringS.l0] at H
   by_cases c4 : x5_1 < (l0.length : Int)
   {
   rw [if_pos c4] at H
   have c4b0 : decide (x5_1 < (l0.length : Int)) = true := decide_eq_true c4
   clear c4
   by_cases c5 : 0 ≤ x5_1
   {
   rw [if_pos c5] at H
   have c5b0 : decide (0 ≤ x5_1) = true := decide_eq_true c5
   clear c5
   by_cases c6 : x5_1 < (l1.length : Int)
   {
   rw [if_pos c6] at H
   have c6b0 : decide (x5_1 < (l1.length : Int)) = true := decide_eq_true c6
   clear c6
   by_cases c7 : (rdOf ByteArray.empty l0 x5_1).toList = (rdOf ByteArray.empty l1 x5_1).toList
   {
   rw [if_pos c7] at H
   have c7b0 : ((rdOf ByteArray.empty l0 x5_1).toList == (rdOf ByteArray.empty l1 x5_1).toList) = true := beq_iff_eq.mpr c7
   have c7b1 : ((rdOf ByteArray.empty l0 x5_1).toList != (rdOf ByteArray.empty l1 x5_1).toList) = false := bne_eq_false_iff_eq.mpr c7
   clear c7
   have H' := Aside0.mk H
   clear H
   have p451 : 0 ≤ (x5_1 : Int) := dA_
   have q451 : x5_1 < (l0.length : Int) := dA_
   obtain ⟨ad451, e451, hx451_0⟩ := Kd.at_string HR0.out x5_1 p451 q451
   cases e451
   replace p451 := eq_true p451
   replace q451 := eq_true q451
   have p452 : 0 ≤ (x5_1 : Int) := dA_
   have q452 : x5_1 < (l1.length : Int) := dA_
   obtain ⟨ad452, e452, hx452_0⟩ := Kd.at_string HR1.out x5_1 p452 q452
   cases e452
   replace p452 := eq_true p452
   replace q452 := eq_true q452
   go_wp2
   repeat (go_quiet (fail); try go_wp2)
   go_roundg k1
   case measure => have := HK1.out; omega
   case rel => exact ⟨(wrap64 (x5_1 + 1)), (by first | rfl | (simp; done) | (simp [*]; done)), H', ⟨by have := HK1.out; omega⟩, dR_⟩}
   {
   rw [if_neg c7] at H
   have c7b0 : ((rdOf ByteArray.empty l0 x5_1).toList == (rdOf ByteArray.empty l1 x5_1).toList) = false := beq_eq_false_iff_ne.mpr c7
   have c7b1 : ((rdOf ByteArray.empty l0 x5_1).toList != (rdOf ByteArray.empty l1 x5_1).toList) = true := bne_iff_ne.mpr c7
   obtain rfl := Option.some.inj H
   have p451 : 0 ≤ (x5_1 : Int) := dA_
   have q451 : x5_1 < (l0.length : Int) := dA_
   obtain ⟨ad451, e451, hx451_0⟩ := Kd.at_string HR0.out x5_1 p451 q451
   cases e451
   replace p451 := eq_true p451
   replace q451 := eq_true q451
   have p452 : 0 ≤ (x5_1 : Int) := dA_
   have q452 : x5_1 < (l1.length : Int) := dA_
   obtain ⟨ad452, e452, hx452_0⟩ := Kd.at_string HR1.out x5_1 p452 q452
   cases e452
   replace p452 := eq_true p452
   replace q452 := eq_true q452
   go_wp2
   repeat (go_quiet (fail); try go_wp2)
   go_ret
   exact ⟨eS_, dR_⟩}}
   {
   rw [if_neg c6] at H
   exact absurd H (by simp)}}
   {
   rw [if_neg c5] at H
   exact absurd H (by simp)}}
   {
   rw [if_neg c4] at H
   have c4b0 : decide (x5_1 < (l0.length : Int)) = false := decide_eq_false c4
   clear c4
   obtain rfl := Option.some.inj H
   go_wp2
   repeat (go_quiet (fail); try go_wp2)
   go_ret
   exact ⟨eS_, dR_⟩}}
 {
 rw [if_neg c3] at H
 have c3b0 : ((l0.length : Int) == (l1.length : Int)) = false := beq_eq_false_iff_ne.mpr c3
 have c3b1 : ((l0.length : Int) != (l1.length : Int)) = true := bne_iff_ne.mpr c3
 have c3b2 : (l0.length == l1.length) = false := by first | simpa using c3 | (simp at c3 ⊢; omega)
 obtain rfl := Option.some.inj H
 go_enter Tryz.func14, Tryz.ntmps14
 go_wp2
 repeat (go_quiet (fail); try go_wp2)
 go_ret
 exact ⟨eS_, dR_⟩
}
def laws_eqEntry.f (a0_0 : ByteArray) (a0_1 : Int) (a0_2 : ByteArray) (a0_3 : Bool) (a1_0 : ByteArray) (a1_1 : Int) (a1_2 : ByteArray) (a1_3 : Bool) : Option (Bool) := if a0_0.toList = a1_0.toList then (if a0_1 = a1_1 then (if a0_2.toList = a1_2.toList then (if (a0_3 != a1_3) = true then (some false) else (some true)) else (some false)) else (some false)) else (some false)
set_option maxHeartbeats 8000000 in
set_option maxRecDepth 100000 in
theorem laws_eqEntry.calls (a0_0 : ByteArray) (a0_1 : Int) (a0_2 : ByteArray) (a0_3 : Bool) (a1_0 : ByteArray) (a1_1 : Int) (a1_2 : ByteArray) (a1_3 : Bool) (r : Bool) (w : World) (h : laws_eqEntry.f a0_0 a0_1 a0_2 a0_3 a1_0 a1_1 a1_2 a1_3 = some r) :
 Calls Tryz.prog 53 #[.agg #[.string a0_0, .int .i64 a0_1, .string a0_2, .bool a0_3], .agg #[.string a1_0, .int .i64 a1_1, .string a1_2, .bool a1_3]] w fun e w' => e = .returned (.bool r) ∧ Below w.heap.size w w' := by
 have hu70 := Tryz.underlying70
 have HB := Aside0.mk (Below.refl w.heap.size w)
 have H : (if a0_0.toList = a1_0.toList then (if a0_1 = a1_1 then (if a0_2.toList = a1_2.toList then (if (a0_3 != a1_3) = true then (some false) else (some true)) else (some false)) else (some false)) else (some false)) = some r := h
 clear h
 by_cases c3 : a0_0.toList = a1_0.toList
 {
 rw [if_pos c3] at H
 have c3b0 : (a0_0.toList == a1_0.toList) = true := beq_iff_eq.mpr c3
 have c3b1 : (a0_0.toList != a1_0.toList) = false := bne_eq_false_iff_eq.mpr c3
 clear c3
 by_cases c4 : a0_1 = a1_1
 {
 rw [if_pos c4] at H
 have c4b0 : (a0_1 == a1_1) = true := beq_iff_eq.mpr c4
 have c4b1 : (a0_1 != a1_1) = false := bne_eq_false_iff_eq.mpr c4
 clear c4
 by_cases c5 : a0_2.toList = a1_2.toList
 {
 rw [if_pos c5] at H
 have c5b0 : (a0_2.toList == a1_2.toList) = true := beq_iff_eq.mpr c5
 have c5b1 : (a0_2.toList != a1_2.toList) = false := bne_eq_false_iff_eq.mpr c5
 clear c5
 by_cases c6 : (a0_3 != a1_3) = true
 {
 rw [if_pos c6] at H
 have c6b0 : (a0_3 != a1_3) = true := c6
 (try (have c6b1 : decide (a0_3 = a1_3) = false := by simpa using c6))
 (try (have c6b2 : (a0_3 == a1_3) = false := by simpa using c6))
 (try (have c6b3 : ¬ (a0_3 = a1_3) := by simpa using c6))
 clear c6
 obtain rfl := Option.some.inj H
 go_enter Tryz.func53, Tryz.ntmps53
 go_wp2_with (first | ((with_reducible refine gate_dst (N := 2) rfl ?_); refine box_event ?hg (N := 2) ?hd (cs := #[.string a0_0, .int .i64 a0_1, .string a0_2, .bool a0_3]) (t := 70) ?hr ?_; (case hd => rfl); (case hg => rfl); (case hr => first | (go_simp; done) | (go_simp; rfl)); intro gb453 hg w7 hbox hb; have n0_ := Aside0.mk (below_step (bw_ HB) hb); have n1_ := Aside0.mk (hbox); have n2_ := Aside0.mk ((by rw [hg]; exact (below_size (bw_ HB)) : w.heap.size ≤ gb453)); have n3_ := Aside0.mk ((by rw [hg]; exact (below_size (bw_ HB)) : w.heap.size ≤ gb453)); clear HB; have HB := n0_; have BK453 := n1_; have GW453 := n2_; have GE453 := n3_; clear n0_ n1_ n2_ n3_; clear hb hbox hg) | ((with_reducible refine gate_dst (N := 3) rfl ?_); refine box_event ?hg (N := 3) ?hd (cs := #[.string a1_0, .int .i64 a1_1, .string a1_2, .bool a1_3]) (t := 70) ?hr ?_; (case hd => rfl); (case hg => rfl); (case hr => first | (go_simp; done) | (go_simp; rfl)); intro gb454 hg w8 hbox hb; have n0_ := Aside0.mk (blk_below (g := gb453) (o := .cells #[.string a0_0, .int .i64 a0_1, .string a0_2, .bool a0_3] 70 (0, 0)) (by (with_reducible repeat (first | refine blk_drewN ?_ _ | refine blk_drew ?_ | refine blk_alloc ?_ _)); exact BK453.out) hb); have n1_ := Aside0.mk (below_step (bw1_ HB GE453) hb); have n2_ := Aside0.mk (hbox); have n3_ := Aside0.mk ((by rw [hg]; exact (below_size (bw1_ HB GE453)) : w.heap.size ≤ gb454)); have n4_ := Aside0.mk ((by rw [hg]; exact (below_size (bw1_ HB GE453)) : w.heap.size ≤ gb454)); have n5_ := Aside0.mk ((by rw [hg]; exact Nat.ne_of_lt (blk_lt (g := gb453) (o := .cells #[.string a0_0, .int .i64 a0_1, .string a0_2, .bool a0_3] 70 (0, 0)) (by (with_reducible repeat (first | refine blk_drewN ?_ _ | refine blk_drew ?_ | refine blk_alloc ?_ _)); exact BK453.out)) : gb453 ≠ gb454)); have n6_ := Aside0.mk ((by rw [hg]; exact Nat.ne_of_gt (blk_lt (g := gb453) (o := .cells #[.string a0_0, .int .i64 a0_1, .string a0_2, .bool a0_3] 70 (0, 0)) (by (with_reducible repeat (first | refine blk_drewN ?_ _ | refine blk_drew ?_ | refine blk_alloc ?_ _)); exact BK453.out)) : gb454 ≠ gb453)); clear BK453; clear HB; have BK453 := n0_; have HB := n1_; have BK454 := n2_; have GW454 := n3_; have GE454 := n4_; have NB453_454 := n5_; have NB454_453 := n6_; clear n0_ n1_ n2_ n3_ n4_ n5_ n6_; clear hb hbox hg; have hnb9 := NB453_454.out; have hnc9 := NB454_453.out; have hcz10_0 : w8.cell? ⟨gb453, 0, none⟩ = some (.string a0_0) := (blk_cell BK453.out 0).trans rfl; have hcz10_1 : w8.cell? ⟨gb453, 1, none⟩ = some (.int .i64 a0_1) := (blk_cell BK453.out 1).trans rfl; have hcz10_2 : w8.cell? ⟨gb453, 2, none⟩ = some (.string a0_2) := (blk_cell BK453.out 2).trans rfl; have hcz10_3 : w8.cell? ⟨gb453, 3, none⟩ = some (.bool a0_3) := (blk_cell BK453.out 3).trans rfl; have hfz10_0 := blk_frozen BK453.out 0; have hfz10_1 := blk_frozen BK453.out 1; have hfz10_2 := blk_frozen BK453.out 2; have hfz10_3 := blk_frozen BK453.out 3; have hcz11_0 : w8.cell? ⟨gb454, 0, none⟩ = some (.string a1_0) := (blk_cell BK454.out 0).trans rfl; have hcz11_1 : w8.cell? ⟨gb454, 1, none⟩ = some (.int .i64 a1_1) := (blk_cell BK454.out 1).trans rfl; have hcz11_2 : w8.cell? ⟨gb454, 2, none⟩ = some (.string a1_2) := (blk_cell BK454.out 2).trans rfl; have hcz11_3 : w8.cell? ⟨gb454, 3, none⟩ = some (.bool a1_3) := (blk_cell BK454.out 3).trans rfl; have hfz11_0 := blk_frozen BK454.out 0; have hfz11_1 := blk_frozen BK454.out 1; have hfz11_2 := blk_frozen BK454.out 2; have hfz11_3 := blk_frozen BK454.out 3))
 go_ret
 exact ⟨eR_, bw2_ HB GE453 GE454⟩}
 {
 rw [if_neg c6] at H
 have c6b0 : (a0_3 != a1_3) = false := by simpa using c6
 (try (have c6b1 : decide (a0_3 = a1_3) = true := by simpa using c6))
 (try (have c6b2 : (a0_3 == a1_3) = true := by simpa using c6))
 clear c6
 obtain rfl := Option.some.inj H
 go_enter Tryz.func53, Tryz.ntmps53
 go_wp2_with (first | ((with_reducible refine gate_dst (N := 2) rfl ?_); refine box_event ?hg (N := 2) ?hd (cs := #[.string a0_0, .int .i64 a0_1, .string a0_2, .bool a0_3]) (t := 70) ?hr ?_; (case hd => rfl); (case hg => rfl); (case hr => first | (go_simp; done) | (go_simp; rfl)); intro gb453 hg w12 hbox hb; have n0_ := Aside0.mk (below_step (bw_ HB) hb); have n1_ := Aside0.mk (hbox); have n2_ := Aside0.mk ((by rw [hg]; exact (below_size (bw_ HB)) : w.heap.size ≤ gb453)); have n3_ := Aside0.mk ((by rw [hg]; exact (below_size (bw_ HB)) : w.heap.size ≤ gb453)); clear HB; have HB := n0_; have BK453 := n1_; have GW453 := n2_; have GE453 := n3_; clear n0_ n1_ n2_ n3_; clear hb hbox hg) | ((with_reducible refine gate_dst (N := 3) rfl ?_); refine box_event ?hg (N := 3) ?hd (cs := #[.string a1_0, .int .i64 a1_1, .string a1_2, .bool a1_3]) (t := 70) ?hr ?_; (case hd => rfl); (case hg => rfl); (case hr => first | (go_simp; done) | (go_simp; rfl)); intro gb454 hg w13 hbox hb; have n0_ := Aside0.mk (blk_below (g := gb453) (o := .cells #[.string a0_0, .int .i64 a0_1, .string a0_2, .bool a0_3] 70 (0, 0)) (by (with_reducible repeat (first | refine blk_drewN ?_ _ | refine blk_drew ?_ | refine blk_alloc ?_ _)); exact BK453.out) hb); have n1_ := Aside0.mk (below_step (bw1_ HB GE453) hb); have n2_ := Aside0.mk (hbox); have n3_ := Aside0.mk ((by rw [hg]; exact (below_size (bw1_ HB GE453)) : w.heap.size ≤ gb454)); have n4_ := Aside0.mk ((by rw [hg]; exact (below_size (bw1_ HB GE453)) : w.heap.size ≤ gb454)); have n5_ := Aside0.mk ((by rw [hg]; exact Nat.ne_of_lt (blk_lt (g := gb453) (o := .cells #[.string a0_0, .int .i64 a0_1, .string a0_2, .bool a0_3] 70 (0, 0)) (by (with_reducible repeat (first | refine blk_drewN ?_ _ | refine blk_drew ?_ | refine blk_alloc ?_ _)); exact BK453.out)) : gb453 ≠ gb454)); have n6_ := Aside0.mk ((by rw [hg]; exact Nat.ne_of_gt (blk_lt (g := gb453) (o := .cells #[.string a0_0, .int .i64 a0_1, .string a0_2, .bool a0_3] 70 (0, 0)) (by (with_reducible repeat (first | refine blk_drewN ?_ _ | refine blk_drew ?_ | refine blk_alloc ?_ _)); exact BK453.out)) : gb454 ≠ gb453)); clear BK453; clear HB; have BK453 := n0_; have HB := n1_; have BK454 := n2_; have GW454 := n3_; have GE454 := n4_; have NB453_454 := n5_; have NB454_453 := n6_; clear n0_ n1_ n2_ n3_ n4_ n5_ n6_; clear hb hbox hg; have hnb14 := NB453_454.out; have hnc14 := NB454_453.out; have hcz15_0 : w13.cell? ⟨gb453, 0, none⟩ = some (.string a0_0) := (blk_cell BK453.out 0).trans rfl; have hcz15_1 : w13.cell? ⟨gb453, 1, none⟩ = some (.int .i64 a0_1) := (blk_cell BK453.out 1).trans rfl; have hcz15_2 : w13.cell? ⟨gb453, 2, none⟩ = some (.string a0_2) := (blk_cell BK453.out 2).trans rfl; have hcz15_3 : w13.cell? ⟨gb453, 3, none⟩ = some (.bool a0_3) := (blk_cell BK453.out 3).trans rfl; have hfz15_0 := blk_frozen BK453.out 0; have hfz15_1 := blk_frozen BK453.out 1; have hfz15_2 := blk_frozen BK453.out 2; have hfz15_3 := blk_frozen BK453.out 3; have hcz16_0 : w13.cell? ⟨gb454, 0, none⟩ = some (.string a1_0) := (blk_cell BK454.out 0).trans rfl; have hcz16_1 : w13.cell? ⟨gb454, 1, none⟩ = some (.int .i64 a1_1) := (blk_cell BK454.out 1).trans rfl; have hcz16_2 : w13.cell? ⟨gb454, 2, none⟩ = some (.string a1_2) := (blk_cell BK454.out 2).trans rfl; have hcz16_3 : w13.cell? ⟨gb454, 3, none⟩ = some (.bool a1_3) := (blk_cell BK454.out 3).trans rfl; have hfz16_0 := blk_frozen BK454.out 0; have hfz16_1 := blk_frozen BK454.out 1; have hfz16_2 := blk_frozen BK454.out 2; have hfz16_3 := blk_frozen BK454.out 3))
 go_ret
 exact ⟨eR_, bw2_ HB GE453 GE454⟩}}
 {
 rw [if_neg c5] at H
 have c5b0 : (a0_2.toList == a1_2.toList) = false := beq_eq_false_iff_ne.mpr c5
 have c5b1 : (a0_2.toList != a1_2.toList) = true := bne_iff_ne.mpr c5
 obtain rfl := Option.some.inj H
 go_enter Tryz.func53, Tryz.ntmps53
 go_wp2_with (first | ((with_reducible refine gate_dst (N := 2) rfl ?_); refine box_event ?hg (N := 2) ?hd (cs := #[.string a0_0, .int .i64 a0_1, .string a0_2, .bool a0_3]) (t := 70) ?hr ?_; (case hd => rfl); (case hg => rfl); (case hr => first | (go_simp; done) | (go_simp; rfl)); intro gb453 hg w17 hbox hb; have n0_ := Aside0.mk (below_step (bw_ HB) hb); have n1_ := Aside0.mk (hbox); have n2_ := Aside0.mk ((by rw [hg]; exact (below_size (bw_ HB)) : w.heap.size ≤ gb453)); have n3_ := Aside0.mk ((by rw [hg]; exact (below_size (bw_ HB)) : w.heap.size ≤ gb453)); clear HB; have HB := n0_; have BK453 := n1_; have GW453 := n2_; have GE453 := n3_; clear n0_ n1_ n2_ n3_; clear hb hbox hg) | ((with_reducible refine gate_dst (N := 3) rfl ?_); refine box_event ?hg (N := 3) ?hd (cs := #[.string a1_0, .int .i64 a1_1, .string a1_2, .bool a1_3]) (t := 70) ?hr ?_; (case hd => rfl); (case hg => rfl); (case hr => first | (go_simp; done) | (go_simp; rfl)); intro gb454 hg w18 hbox hb; have n0_ := Aside0.mk (blk_below (g := gb453) (o := .cells #[.string a0_0, .int .i64 a0_1, .string a0_2, .bool a0_3] 70 (0, 0)) (by (with_reducible repeat (first | refine blk_drewN ?_ _ | refine blk_drew ?_ | refine blk_alloc ?_ _)); exact BK453.out) hb); have n1_ := Aside0.mk (below_step (bw1_ HB GE453) hb); have n2_ := Aside0.mk (hbox); have n3_ := Aside0.mk ((by rw [hg]; exact (below_size (bw1_ HB GE453)) : w.heap.size ≤ gb454)); have n4_ := Aside0.mk ((by rw [hg]; exact (below_size (bw1_ HB GE453)) : w.heap.size ≤ gb454)); have n5_ := Aside0.mk ((by rw [hg]; exact Nat.ne_of_lt (blk_lt (g := gb453) (o := .cells #[.string a0_0, .int .i64 a0_1, .string a0_2, .bool a0_3] 70 (0, 0)) (by (with_reducible repeat (first | refine blk_drewN ?_ _ | refine blk_drew ?_ | refine blk_alloc ?_ _)); exact BK453.out)) : gb453 ≠ gb454)); have n6_ := Aside0.mk ((by rw [hg]; exact Nat.ne_of_gt (blk_lt (g := gb453) (o := .cells #[.string a0_0, .int .i64 a0_1, .string a0_2, .bool a0_3] 70 (0, 0)) (by (with_reducible repeat (first | refine blk_drewN ?_ _ | refine blk_drew ?_ | refine blk_alloc ?_ _)); exact BK453.out)) : gb454 ≠ gb453)); clear BK453; clear HB; have BK453 := n0_; have HB := n1_; have BK454 := n2_; have GW454 := n3_; have GE454 := n4_; have NB453_454 := n5_; have NB454_453 := n6_; clear n0_ n1_ n2_ n3_ n4_ n5_ n6_; clear hb hbox hg; have hnb19 := NB453_454.out; have hnc19 := NB454_453.out; have hcz20_0 : w18.cell? ⟨gb453, 0, none⟩ = some (.string a0_0) := (blk_cell BK453.out 0).trans rfl; have hcz20_1 : w18.cell? ⟨gb453, 1, none⟩ = some (.int .i64 a0_1) := (blk_cell BK453.out 1).trans rfl; have hcz20_2 : w18.cell? ⟨gb453, 2, none⟩ = some (.string a0_2) := (blk_cell BK453.out 2).trans rfl; have hcz20_3 : w18.cell? ⟨gb453, 3, none⟩ = some (.bool a0_3) := (blk_cell BK453.out 3).trans rfl; have hfz20_0 := blk_frozen BK453.out 0; have hfz20_1 := blk_frozen BK453.out 1; have hfz20_2 := blk_frozen BK453.out 2; have hfz20_3 := blk_frozen BK453.out 3; have hcz21_0 : w18.cell? ⟨gb454, 0, none⟩ = some (.string a1_0) := (blk_cell BK454.out 0).trans rfl; have hcz21_1 : w18.cell? ⟨gb454, 1, none⟩ = some (.int .i64 a1_1) := (blk_cell BK454.out 1).trans rfl; have hcz21_2 : w18.cell? ⟨gb454, 2, none⟩ = some (.string a1_2) := (blk_cell BK454.out 2).trans rfl; have hcz21_3 : w18.cell? ⟨gb454, 3, none⟩ = some (.bool a1_3) := (blk_cell BK454.out 3).trans rfl; have hfz21_0 := blk_frozen BK454.out 0; have hfz21_1 := blk_frozen BK454.out 1; have hfz21_2 := blk_frozen BK454.out 2; have hfz21_3 := blk_frozen BK454.out 3))
 go_ret
 exact ⟨eR_, bw2_ HB GE453 GE454⟩}}
 {
 rw [if_neg c4] at H
 have c4b0 : (a0_1 == a1_1) = false := beq_eq_false_iff_ne.mpr c4
 have c4b1 : (a0_1 != a1_1) = true := bne_iff_ne.mpr c4
 obtain rfl := Option.some.inj H
 go_enter Tryz.func53, Tryz.ntmps53
 go_wp2_with (first | ((with_reducible refine gate_dst (N := 2) rfl ?_); refine box_event ?hg (N := 2) ?hd (cs := #[.string a0_0, .int .i64 a0_1, .string a0_2, .bool a0_3]) (t := 70) ?hr ?_; (case hd => rfl); (case hg => rfl); (case hr => first | (go_simp; done) | (go_simp; rfl)); intro gb453 hg w22 hbox hb; have n0_ := Aside0.mk (below_step (bw_ HB) hb); have n1_ := Aside0.mk (hbox); have n2_ := Aside0.mk ((by rw [hg]; exact (below_size (bw_ HB)) : w.heap.size ≤ gb453)); have n3_ := Aside0.mk ((by rw [hg]; exact (below_size (bw_ HB)) : w.heap.size ≤ gb453)); clear HB; have HB := n0_; have BK453 := n1_; have GW453 := n2_; have GE453 := n3_; clear n0_ n1_ n2_ n3_; clear hb hbox hg) | ((with_reducible refine gate_dst (N := 3) rfl ?_); refine box_event ?hg (N := 3) ?hd (cs := #[.string a1_0, .int .i64 a1_1, .string a1_2, .bool a1_3]) (t := 70) ?hr ?_; (case hd => rfl); (case hg => rfl); (case hr => first | (go_simp; done) | (go_simp; rfl)); intro gb454 hg w23 hbox hb; have n0_ := Aside0.mk (blk_below (g := gb453) (o := .cells #[.string a0_0, .int .i64 a0_1, .string a0_2, .bool a0_3] 70 (0, 0)) (by (with_reducible repeat (first | refine blk_drewN ?_ _ | refine blk_drew ?_ | refine blk_alloc ?_ _)); exact BK453.out) hb); have n1_ := Aside0.mk (below_step (bw1_ HB GE453) hb); have n2_ := Aside0.mk (hbox); have n3_ := Aside0.mk ((by rw [hg]; exact (below_size (bw1_ HB GE453)) : w.heap.size ≤ gb454)); have n4_ := Aside0.mk ((by rw [hg]; exact (below_size (bw1_ HB GE453)) : w.heap.size ≤ gb454)); have n5_ := Aside0.mk ((by rw [hg]; exact Nat.ne_of_lt (blk_lt (g := gb453) (o := .cells #[.string a0_0, .int .i64 a0_1, .string a0_2, .bool a0_3] 70 (0, 0)) (by (with_reducible repeat (first | refine blk_drewN ?_ _ | refine blk_drew ?_ | refine blk_alloc ?_ _)); exact BK453.out)) : gb453 ≠ gb454)); have n6_ := Aside0.mk ((by rw [hg]; exact Nat.ne_of_gt (blk_lt (g := gb453) (o := .cells #[.string a0_0, .int .i64 a0_1, .string a0_2, .bool a0_3] 70 (0, 0)) (by (with_reducible repeat (first | refine blk_drewN ?_ _ | refine blk_drew ?_ | refine blk_alloc ?_ _)); exact BK453.out)) : gb454 ≠ gb453)); clear BK453; clear HB; have BK453 := n0_; have HB := n1_; have BK454 := n2_; have GW454 := n3_; have GE454 := n4_; have NB453_454 := n5_; have NB454_453 := n6_; clear n0_ n1_ n2_ n3_ n4_ n5_ n6_; clear hb hbox hg; have hnb24 := NB453_454.out; have hnc24 := NB454_453.out; have hcz25_0 : w23.cell? ⟨gb453, 0, none⟩ = some (.string a0_0) := (blk_cell BK453.out 0).trans rfl; have hcz25_1 : w23.cell? ⟨gb453, 1, none⟩ = some (.int .i64 a0_1) := (blk_cell BK453.out 1).trans rfl; have hcz25_2 : w23.cell? ⟨gb453, 2, none⟩ = some (.string a0_2) := (blk_cell BK453.out 2).trans rfl; have hcz25_3 : w23.cell? ⟨gb453, 3, none⟩ = some (.bool a0_3) := (blk_cell BK453.out 3).trans rfl; have hfz25_0 := blk_frozen BK453.out 0; have hfz25_1 := blk_frozen BK453.out 1; have hfz25_2 := blk_frozen BK453.out 2; have hfz25_3 := blk_frozen BK453.out 3; have hcz26_0 : w23.cell? ⟨gb454, 0, none⟩ = some (.string a1_0) := (blk_cell BK454.out 0).trans rfl; have hcz26_1 : w23.cell? ⟨gb454, 1, none⟩ = some (.int .i64 a1_1) := (blk_cell BK454.out 1).trans rfl; have hcz26_2 : w23.cell? ⟨gb454, 2, none⟩ = some (.string a1_2) := (blk_cell BK454.out 2).trans rfl; have hcz26_3 : w23.cell? ⟨gb454, 3, none⟩ = some (.bool a1_3) := (blk_cell BK454.out 3).trans rfl; have hfz26_0 := blk_frozen BK454.out 0; have hfz26_1 := blk_frozen BK454.out 1; have hfz26_2 := blk_frozen BK454.out 2; have hfz26_3 := blk_frozen BK454.out 3))
 go_ret
 exact ⟨eR_, bw2_ HB GE453 GE454⟩}}
 {
 rw [if_neg c3] at H
 have c3b0 : (a0_0.toList == a1_0.toList) = false := beq_eq_false_iff_ne.mpr c3
 have c3b1 : (a0_0.toList != a1_0.toList) = true := bne_iff_ne.mpr c3
 obtain rfl := Option.some.inj H
 go_enter Tryz.func53, Tryz.ntmps53
 go_wp2_with (first | ((with_reducible refine gate_dst (N := 2) rfl ?_); refine box_event ?hg (N := 2) ?hd (cs := #[.string a0_0, .int .i64 a0_1, .string a0_2, .bool a0_3]) (t := 70) ?hr ?_; (case hd => rfl); (case hg => rfl); (case hr => first | (go_simp; done) | (go_simp; rfl)); intro gb453 hg w27 hbox hb; have n0_ := Aside0.mk (below_step (bw_ HB) hb); have n1_ := Aside0.mk (hbox); have n2_ := Aside0.mk ((by rw [hg]; exact (below_size (bw_ HB)) : w.heap.size ≤ gb453)); have n3_ := Aside0.mk ((by rw [hg]; exact (below_size (bw_ HB)) : w.heap.size ≤ gb453)); clear HB; have HB := n0_; have BK453 := n1_; have GW453 := n2_; have GE453 := n3_; clear n0_ n1_ n2_ n3_; clear hb hbox hg) | ((with_reducible refine gate_dst (N := 3) rfl ?_); refine box_event ?hg (N := 3) ?hd (cs := #[.string a1_0, .int .i64 a1_1, .string a1_2, .bool a1_3]) (t := 70) ?hr ?_; (case hd => rfl); (case hg => rfl); (case hr => first | (go_simp; done) | (go_simp; rfl)); intro gb454 hg w28 hbox hb; have n0_ := Aside0.mk (blk_below (g := gb453) (o := .cells #[.string a0_0, .int .i64 a0_1, .string a0_2, .bool a0_3] 70 (0, 0)) (by (with_reducible repeat (first | refine blk_drewN ?_ _ | refine blk_drew ?_ | refine blk_alloc ?_ _)); exact BK453.out) hb); have n1_ := Aside0.mk (below_step (bw1_ HB GE453) hb); have n2_ := Aside0.mk (hbox); have n3_ := Aside0.mk ((by rw [hg]; exact (below_size (bw1_ HB GE453)) : w.heap.size ≤ gb454)); have n4_ := Aside0.mk ((by rw [hg]; exact (below_size (bw1_ HB GE453)) : w.heap.size ≤ gb454)); have n5_ := Aside0.mk ((by rw [hg]; exact Nat.ne_of_lt (blk_lt (g := gb453) (o := .cells #[.string a0_0, .int .i64 a0_1, .string a0_2, .bool a0_3] 70 (0, 0)) (by (with_reducible repeat (first | refine blk_drewN ?_ _ | refine blk_drew ?_ | refine blk_alloc ?_ _)); exact BK453.out)) : gb453 ≠ gb454)); have n6_ := Aside0.mk ((by rw [hg]; exact Nat.ne_of_gt (blk_lt (g := gb453) (o := .cells #[.string a0_0, .int .i64 a0_1, .string a0_2, .bool a0_3] 70 (0, 0)) (by (with_reducible repeat (first | refine blk_drewN ?_ _ | refine blk_drew ?_ | refine blk_alloc ?_ _)); exact BK453.out)) : gb454 ≠ gb453)); clear BK453; clear HB; have BK453 := n0_; have HB := n1_; have BK454 := n2_; have GW454 := n3_; have GE454 := n4_; have NB453_454 := n5_; have NB454_453 := n6_; clear n0_ n1_ n2_ n3_ n4_ n5_ n6_; clear hb hbox hg; have hnb29 := NB453_454.out; have hnc29 := NB454_453.out; have hcz30_0 : w28.cell? ⟨gb453, 0, none⟩ = some (.string a0_0) := (blk_cell BK453.out 0).trans rfl; have hcz30_1 : w28.cell? ⟨gb453, 1, none⟩ = some (.int .i64 a0_1) := (blk_cell BK453.out 1).trans rfl; have hcz30_2 : w28.cell? ⟨gb453, 2, none⟩ = some (.string a0_2) := (blk_cell BK453.out 2).trans rfl; have hcz30_3 : w28.cell? ⟨gb453, 3, none⟩ = some (.bool a0_3) := (blk_cell BK453.out 3).trans rfl; have hfz30_0 := blk_frozen BK453.out 0; have hfz30_1 := blk_frozen BK453.out 1; have hfz30_2 := blk_frozen BK453.out 2; have hfz30_3 := blk_frozen BK453.out 3; have hcz31_0 : w28.cell? ⟨gb454, 0, none⟩ = some (.string a1_0) := (blk_cell BK454.out 0).trans rfl; have hcz31_1 : w28.cell? ⟨gb454, 1, none⟩ = some (.int .i64 a1_1) := (blk_cell BK454.out 1).trans rfl; have hcz31_2 : w28.cell? ⟨gb454, 2, none⟩ = some (.string a1_2) := (blk_cell BK454.out 2).trans rfl; have hcz31_3 : w28.cell? ⟨gb454, 3, none⟩ = some (.bool a1_3) := (blk_cell BK454.out 3).trans rfl; have hfz31_0 := blk_frozen BK454.out 0; have hfz31_1 := blk_frozen BK454.out 1; have hfz31_2 := blk_frozen BK454.out 2; have hfz31_3 := blk_frozen BK454.out 3))
 go_ret
 exact ⟨eR_, bw2_ HB GE453 GE454⟩
}
end Go.Proofs.YtkhhkpjeafknpaaGreatDoor.P
end

section
namespace Go.Proofs.YtkhhkpjeafknpaaGreatDoor.P
open Go.RowKit Go.Proofs.YtkhhkpjeafknpaaGreatDoorW.PrintWords Go.Proofs.YtkhhkpjeafknpaaGreatDoorW.PrintLast Go.Proofs.YtkhhkpjeafknpaaGreatDoorW.PrintMore Go.Proofs.YtkhhkpjeafknpaaGreatDoorM
attribute [local go_sem] max2_int min2_int max_two min_two max_three min_three max_four min_four
set_option linter.unusedVariables false
set_option linter.unusedSimpArgs false
def laws_eqEntryS.l0 : Nat → List (S70) → List (S70) → Int → Option (Bool)
 | 0, _, _, _ => none
 | k + 1, x0, x1, x5 => if x5 < (x0.length : Int) then (if 0 ≤ x5 then (if x5 < (x1.length : Int) then ((laws_eqEntry.f ((rd_T70 x0 x5).f0) ((rd_T70 x0 x5).f1) ((rd_T70 x0 x5).f2) ((rd_T70 x0 x5).f3) ((rd_T70 x1 x5).f0) ((rd_T70 x1 x5).f1) ((rd_T70 x1 x5).f2) ((rd_T70 x1 x5).f3)).bind fun t457 => (if t457 = true then (laws_eqEntryS.l0 k x0 x1 (wrap64 (x5 + 1))) else (some false))) else (none)) else (none)) else (some true)
def laws_eqEntryS.f (k : Nat) (l0 : List (S70)) (l1 : List (S70)) : Option (Bool) := if (l0.length : Int) = (l1.length : Int) then (laws_eqEntryS.l0 k l0 l1 0) else (some false)
def laws_eqEntryS.T6 : Bool × List (List Nat × List Nat) := (true, [([], []), ([], []), ([0, 1], [0, 1]), ([2], [2]), ([], []), ([], []), ([4, 5], [4, 5]), ([6], [6]), ([3, 7], [3, 7]), ([8], [8])])
def laws_eqEntryS.B6 : List Nat := [0, 0, 3, 7, 0, 0, 48, 112, 255, 511]
theorem laws_eqEntryS.tab6 : rtab .any (opsOf Tryz.f22 6) = laws_eqEntryS.T6 := by kernel_rfl
theorem laws_eqEntryS.bits6 : waitsOk laws_eqEntryS.T6.2 laws_eqEntryS.B6 = true := by kernel_rfl
set_option maxHeartbeats 8000000 in
set_option maxRecDepth 100000 in
theorem laws_eqEntryS.calls (k : Nat) (A0 : Option Addr) (c0 : Nat) (l0 : List (S70)) (A1 : Option Addr) (c1 : Nat) (l1 : List (S70)) (r : Bool) (w : World) (hr0 : Kd.C k70 w A0 l0.length l0) (hc0 : l0.length ≤ c0) (hr1 : Kd.C k70 w A1 l1.length l1) (hc1 : l1.length ≤ c1) (h : laws_eqEntryS.f k l0 l1 = some r) :
 Calls Tryz.prog 22 #[.slice A0 l0.length c0, .slice A1 l1.length c1] w fun e w' => e = .returned (.bool r) ∧ Below w.heap.size w w' := by
 have hu70 := Tryz.underlying70
 have HR0 := Aside0.mk hr0
 have HC0 := Aside0.mk hc0
 clear hr0 hc0
 have HR1 := Aside0.mk hr1
 have HC1 := Aside0.mk hc1
 clear hr1 hc1
 have HB := Aside0.mk (Below.refl w.heap.size w)
 have H : (if (l0.length : Int) = (l1.length : Int) then (laws_eqEntryS.l0 k l0 l1 0) else (some false)) = some r := h
 clear h
 by_cases c3 : (l0.length : Int) = (l1.length : Int)
 {
 rw [if_pos c3] at H
 have c3b0 : ((l0.length : Int) == (l1.length : Int)) = true := beq_iff_eq.mpr c3
 have c3b1 : ((l0.length : Int) != (l1.length : Int)) = false := bne_eq_false_iff_eq.mpr c3
 have c3b2 : (l0.length == l1.length) = true := by first | simpa using c3 | (simp at c3 ⊢; omega)
 clear c3
 have H' := Aside0.mk H
 clear H
 go_enter Tryz.func22, Tryz.ntmps22
 go_wp2
 go_loopg [5] k (fun kq v5 w' => ∃ (x5_1 : Int), v5 = .int .i64 x5_1 ∧ Aside0 (laws_eqEntryS.l0 kq l0 l1 x5_1 = some r) ∧ Aside0 (kq ≤ k) ∧ Aside0 (Below w.heap.size w w'))
 case atStart => exact ⟨(0), (by first | rfl | (simp; done) | (simp [*]; done)), H', ⟨Nat.le_refl _⟩, ⟨bw_ HB⟩⟩
 case round =>
  clear H'
  try clear c1
  try clear c2
  try clear p2
  try clear c3
  try clear c3b0
  try clear c3b1
  try clear c3b2
  obtain ⟨x5_1, rfl, HA, HK1, HB⟩ := hrel
  cases gk with
  | zero => exact absurd HA.out (by simp [laws_eqEntryS.l0])
  | succ k1 =>
   have H := HA.out
   clear HA
   simp only [laws_eqEntryS.l0] at H
   by_cases c4 : x5_1 < (l0.length : Int)
   {
   rw [if_pos c4] at H
   have c4b0 : decide (x5_1 < (l0.length : Int)) = true := decide_eq_true c4
   clear c4
   by_cases c5 : 0 ≤ x5_1
   {
   rw [if_pos c5] at H
   have c5b0 : decide (0 ≤ x5_1) = true := decide_eq_true c5
   clear c5
   by_cases c6 : x5_1 < (l1.length : Int)
   {
   rw [if_pos c6] at H
   have c6b0 : decide (x5_1 < (l1.length : Int)) = true := decide_eq_true c6
   clear c6
   replace H := Option.bind_eq_some_iff.mp H
   obtain ⟨t457, A70, H⟩ := H
   have A7 := Aside0.mk A70
   clear A70
   by_cases c8 : t457 = true
   {
   subst c8
   rw [if_pos rfl] at H
   have H' := Aside0.mk H
   clear H
   try go_wp2
   have n0_ := Aside0.mk (below_drew1 HB.out)
   clear HB
   have HB := n0_
   clear n0_
   have p455 : 0 ≤ (x5_1 : Int) := dA_
   have q455 : x5_1 < (l0.length : Int) := dA_
   obtain ⟨ad455, e455, hx455_0, hx455_1, hx455_2, hx455_3⟩ := at_T70 HR0.out x5_1 p455 q455
   have hw455_3 := hx455_3
   have hw455_2 := hx455_2
   have hw455_1 := hx455_1
   have hw455_0 := hx455_0
   cases e455
   replace hx455_0 := hX_ HB hx455_0
   replace hx455_1 := hX_ HB hx455_1
   replace hx455_2 := hX_ HB hx455_2
   replace hx455_3 := hX_ HB hx455_3
   replace p455 := eq_true p455
   replace q455 := eq_true q455
   have p456 : 0 ≤ (x5_1 : Int) := dA_
   have q456 : x5_1 < (l1.length : Int) := dA_
   obtain ⟨ad456, e456, hx456_0, hx456_1, hx456_2, hx456_3⟩ := at_T70 HR1.out x5_1 p456 q456
   have hw456_3 := hx456_3
   have hw456_2 := hx456_2
   have hw456_1 := hx456_1
   have hw456_0 := hx456_0
   cases e456
   replace hx456_0 := hX_ HB hx456_0
   replace hx456_1 := hX_ HB hx456_1
   replace hx456_2 := hX_ HB hx456_2
   replace hx456_3 := hX_ HB hx456_3
   replace p456 := eq_true p456
   replace q456 := eq_true q456
   refine start_ (n := 10) (S := fun w' => w'.cell? (ad455.add ((x5_1).toNat * 4)) = some (.string ((rd_T70 l0 x5_1).f0)) ∧ w'.cell? ⟨(ad455.add ((x5_1).toNat * 4)).block, (ad455.add ((x5_1).toNat * 4)).off + 1, none⟩ = some (.int .i64 ((rd_T70 l0 x5_1).f1)) ∧ w'.cell? ⟨(ad455.add ((x5_1).toNat * 4)).block, (ad455.add ((x5_1).toNat * 4)).off + 2, none⟩ = some (.string ((rd_T70 l0 x5_1).f2)) ∧ w'.cell? ⟨(ad455.add ((x5_1).toNat * 4)).block, (ad455.add ((x5_1).toNat * 4)).off + 3, none⟩ = some (.bool ((rd_T70 l0 x5_1).f3)) ∧ w'.cell? (ad456.add ((x5_1).toNat * 4)) = some (.string ((rd_T70 l1 x5_1).f0)) ∧ w'.cell? ⟨(ad456.add ((x5_1).toNat * 4)).block, (ad456.add ((x5_1).toNat * 4)).off + 1, none⟩ = some (.int .i64 ((rd_T70 l1 x5_1).f1)) ∧ w'.cell? ⟨(ad456.add ((x5_1).toNat * 4)).block, (ad456.add ((x5_1).toNat * 4)).off + 2, none⟩ = some (.string ((rd_T70 l1 x5_1).f2)) ∧ w'.cell? ⟨(ad456.add ((x5_1).toNat * 4)).block, (ad456.add ((x5_1).toNat * 4)).off + 3, none⟩ = some (.bool ((rd_T70 l1 x5_1).f3))) (ds := []) (bs_ 10 0) (by kernel_rfl) rfl (by kernel_rfl) ⟨((HB.out.cell (World.block_lt_of_cell? w _ hw455_0)).trans hw455_0), ((HB.out.cell (World.block_lt_of_cell? w _ hw455_1)).trans hw455_1), ((HB.out.cell (World.block_lt_of_cell? w _ hw455_2)).trans hw455_2), ((HB.out.cell (World.block_lt_of_cell? w _ hw455_3)).trans hw455_3), ((HB.out.cell (World.block_lt_of_cell? w _ hw456_0)).trans hw456_0), ((HB.out.cell (World.block_lt_of_cell? w _ hw456_1)).trans hw456_1), ((HB.out.cell (World.block_lt_of_cell? w _ hw456_2)).trans hw456_2), ((HB.out.cell (World.block_lt_of_cell? w _ hw456_3)).trans hw456_3)⟩ (fun hHeld => ?_); refine with_tabW laws_eqEntryS.tab6 laws_eqEntryS.bits6 (fun HT_ HW_ => ?_)
   generalize wr.drew = w9 at HB hx455_0 hx455_1 hx455_2 hx455_3 hx456_0 hx456_1 hx456_2 hx456_3 hHeld ⊢
   refine pS_ 0 ?_
   refine pS_ 1 ?_
   refine pS_ 2 ?_
   refine pS_ 4 ?_
   refine pS_ 5 ?_
   refine pS_ 6 ?_
   refine t8_ 3 hHeld ?_
   refine t8_ 7 hHeld ?_
   refine oS_ 8 (fun K hK => ?_)
   refine gS_ Tryz.func53 #[.agg #[.string ((rd_T70 l0 x5_1).f0), .int .i64 ((rd_T70 l0 x5_1).f1), .string ((rd_T70 l0 x5_1).f2), .bool ((rd_T70 l0 x5_1).f3)], .agg #[.string ((rd_T70 l1 x5_1).f0), .int .i64 ((rd_T70 l1 x5_1).f1), .string ((rd_T70 l1 x5_1).f2), .bool ((rd_T70 l1 x5_1).f3)]] ?_
   with_reducible refine (laws_eqEntry.calls ((rd_T70 l0 x5_1).f0) ((rd_T70 l0 x5_1).f1) ((rd_T70 l0 x5_1).f2) ((rd_T70 l0 x5_1).f3) ((rd_T70 l1 x5_1).f0) ((rd_T70 l1 x5_1).f1) ((rd_T70 l1 x5_1).f2) ((rd_T70 l1 x5_1).f3) true _ A7.out).mono ?_
   rintro e w10 ⟨rfl, hb⟩
   refine ⟨_, rfl, ?_⟩
   have n0_ := Aside0.mk (below_step (bw_ HB) hb)
   clear HB
   have HB := n0_
   clear n0_
   (try clear hb)
   (try clear hb2)
   (try clear hk)
   (try clear hi)
   refine hK.out _ _ ⟨((HB.out.cell (World.block_lt_of_cell? w _ hw455_0)).trans hw455_0), ((HB.out.cell (World.block_lt_of_cell? w _ hw455_1)).trans hw455_1), ((HB.out.cell (World.block_lt_of_cell? w _ hw455_2)).trans hw455_2), ((HB.out.cell (World.block_lt_of_cell? w _ hw455_3)).trans hw455_3), ((HB.out.cell (World.block_lt_of_cell? w _ hw456_0)).trans hw456_0), ((HB.out.cell (World.block_lt_of_cell? w _ hw456_1)).trans hw456_1), ((HB.out.cell (World.block_lt_of_cell? w _ hw456_2)).trans hw456_2), ((HB.out.cell (World.block_lt_of_cell? w _ hw456_3)).trans hw456_3)⟩ (fun hHeld => ?_)
   clear hK K
   refine nS_ 25 ?_
   refine pS_ 9 ?_
   refine done_ (done_of HT_.out (by kernel_rfl)) ?_
   try go_wp2
   go_roundg k1
   case measure => have := HK1.out; omega
   case rel => exact ⟨(wrap64 (x5_1 + 1)), (by first | rfl | (simp; done) | (simp [*]; done)), H', ⟨by have := HK1.out; omega⟩, ⟨bw_ HB⟩⟩}
   {
   replace c8 := Bool.eq_false_iff.mpr c8
   subst c8
   rw [if_neg (show ¬ (false = true) by decide)] at H
   obtain rfl := Option.some.inj H
   try go_wp2
   have n0_ := Aside0.mk (below_drew1 HB.out)
   clear HB
   have HB := n0_
   clear n0_
   have p455 : 0 ≤ (x5_1 : Int) := dA_
   have q455 : x5_1 < (l0.length : Int) := dA_
   obtain ⟨ad455, e455, hx455_0, hx455_1, hx455_2, hx455_3⟩ := at_T70 HR0.out x5_1 p455 q455
   have hw455_3 := hx455_3
   have hw455_2 := hx455_2
   have hw455_1 := hx455_1
   have hw455_0 := hx455_0
   cases e455
   replace hx455_0 := hX_ HB hx455_0
   replace hx455_1 := hX_ HB hx455_1
   replace hx455_2 := hX_ HB hx455_2
   replace hx455_3 := hX_ HB hx455_3
   replace p455 := eq_true p455
   replace q455 := eq_true q455
   have p456 : 0 ≤ (x5_1 : Int) := dA_
   have q456 : x5_1 < (l1.length : Int) := dA_
   obtain ⟨ad456, e456, hx456_0, hx456_1, hx456_2, hx456_3⟩ := at_T70 HR1.out x5_1 p456 q456
   have hw456_3 := hx456_3
   have hw456_2 := hx456_2
   have hw456_1 := hx456_1
   have hw456_0 := hx456_0
   cases e456
   replace hx456_0 := hX_ HB hx456_0
   replace hx456_1 := hX_ HB hx456_1
   replace hx456_2 := hX_ HB hx456_2
   replace hx456_3 := hX_ HB hx456_3
   replace p456 := eq_true p456
   replace q456 := eq_true q456
   refine start_ (n := 10) (S := fun w' => w'.cell? (ad455.add ((x5_1).toNat * 4)) = some (.string ((rd_T70 l0 x5_1).f0)) ∧ w'.cell? ⟨(ad455.add ((x5_1).toNat * 4)).block, (ad455.add ((x5_1).toNat * 4)).off + 1, none⟩ = some (.int .i64 ((rd_T70 l0 x5_1).f1)) ∧ w'.cell? ⟨(ad455.add ((x5_1).toNat * 4)).block, (ad455.add ((x5_1).toNat * 4)).off + 2, none⟩ = some (.string ((rd_T70 l0 x5_1).f2)) ∧ w'.cell? ⟨(ad455.add ((x5_1).toNat * 4)).block, (ad455.add ((x5_1).toNat * 4)).off + 3, none⟩ = some (.bool ((rd_T70 l0 x5_1).f3)) ∧ w'.cell? (ad456.add ((x5_1).toNat * 4)) = some (.string ((rd_T70 l1 x5_1).f0)) ∧ w'.cell? ⟨(ad456.add ((x5_1).toNat * 4)).block, (ad456.add ((x5_1).toNat * 4)).off + 1, none⟩ = some (.int .i64 ((rd_T70 l1 x5_1).f1)) ∧ w'.cell? ⟨(ad456.add ((x5_1).toNat * 4)).block, (ad456.add ((x5_1).toNat * 4)).off + 2, none⟩ = some (.string ((rd_T70 l1 x5_1).f2)) ∧ w'.cell? ⟨(ad456.add ((x5_1).toNat * 4)).block, (ad456.add ((x5_1).toNat * 4)).off + 3, none⟩ = some (.bool ((rd_T70 l1 x5_1).f3))) (ds := []) (bs_ 10 0) (by kernel_rfl) rfl (by kernel_rfl) ⟨((HB.out.cell (World.block_lt_of_cell? w _ hw455_0)).trans hw455_0), ((HB.out.cell (World.block_lt_of_cell? w _ hw455_1)).trans hw455_1), ((HB.out.cell (World.block_lt_of_cell? w _ hw455_2)).trans hw455_2), ((HB.out.cell (World.block_lt_of_cell? w _ hw455_3)).trans hw455_3), ((HB.out.cell (World.block_lt_of_cell? w _ hw456_0)).trans hw456_0), ((HB.out.cell (World.block_lt_of_cell? w _ hw456_1)).trans hw456_1), ((HB.out.cell (World.block_lt_of_cell? w _ hw456_2)).trans hw456_2), ((HB.out.cell (World.block_lt_of_cell? w _ hw456_3)).trans hw456_3)⟩ (fun hHeld => ?_); refine with_tabW laws_eqEntryS.tab6 laws_eqEntryS.bits6 (fun HT_ HW_ => ?_)
   generalize wr.drew = w11 at HB hx455_0 hx455_1 hx455_2 hx455_3 hx456_0 hx456_1 hx456_2 hx456_3 hHeld ⊢
   refine pS_ 0 ?_
   refine pS_ 1 ?_
   refine pS_ 2 ?_
   refine pS_ 4 ?_
   refine pS_ 5 ?_
   refine pS_ 6 ?_
   refine t8_ 3 hHeld ?_
   refine t8_ 7 hHeld ?_
   refine oS_ 8 (fun K hK => ?_)
   refine gS_ Tryz.func53 #[.agg #[.string ((rd_T70 l0 x5_1).f0), .int .i64 ((rd_T70 l0 x5_1).f1), .string ((rd_T70 l0 x5_1).f2), .bool ((rd_T70 l0 x5_1).f3)], .agg #[.string ((rd_T70 l1 x5_1).f0), .int .i64 ((rd_T70 l1 x5_1).f1), .string ((rd_T70 l1 x5_1).f2), .bool ((rd_T70 l1 x5_1).f3)]] ?_
   with_reducible refine (laws_eqEntry.calls ((rd_T70 l0 x5_1).f0) ((rd_T70 l0 x5_1).f1) ((rd_T70 l0 x5_1).f2) ((rd_T70 l0 x5_1).f3) ((rd_T70 l1 x5_1).f0) ((rd_T70 l1 x5_1).f1) ((rd_T70 l1 x5_1).f2) ((rd_T70 l1 x5_1).f3) false _ A7.out).mono ?_
   rintro e w12 ⟨rfl, hb⟩
   refine ⟨_, rfl, ?_⟩
   have n0_ := Aside0.mk (below_step (bw_ HB) hb)
   clear HB
   have HB := n0_
   clear n0_
   (try clear hb)
   (try clear hb2)
   (try clear hk)
   (try clear hi)
   refine hK.out _ _ ⟨((HB.out.cell (World.block_lt_of_cell? w _ hw455_0)).trans hw455_0), ((HB.out.cell (World.block_lt_of_cell? w _ hw455_1)).trans hw455_1), ((HB.out.cell (World.block_lt_of_cell? w _ hw455_2)).trans hw455_2), ((HB.out.cell (World.block_lt_of_cell? w _ hw455_3)).trans hw455_3), ((HB.out.cell (World.block_lt_of_cell? w _ hw456_0)).trans hw456_0), ((HB.out.cell (World.block_lt_of_cell? w _ hw456_1)).trans hw456_1), ((HB.out.cell (World.block_lt_of_cell? w _ hw456_2)).trans hw456_2), ((HB.out.cell (World.block_lt_of_cell? w _ hw456_3)).trans hw456_3)⟩ (fun hHeld => ?_)
   clear hK K
   refine nS_ 25 ?_
   refine pS_ 9 ?_
   refine done_ (done_of HT_.out (by kernel_rfl)) ?_
   try go_wp2
   go_ret
   exact ⟨eR_, bw_ HB⟩}}
   {
   rw [if_neg c6] at H
   exact absurd H (by simp)}}
   {
   rw [if_neg c5] at H
   exact absurd H (by simp)}}
   {
   rw [if_neg c4] at H
   have c4b0 : decide (x5_1 < (l0.length : Int)) = false := decide_eq_false c4
   clear c4
   obtain rfl := Option.some.inj H
   go_wp2
   go_ret
   exact ⟨eR_, bw_ HB⟩}}
 {
 rw [if_neg c3] at H
 have c3b0 : ((l0.length : Int) == (l1.length : Int)) = false := beq_eq_false_iff_ne.mpr c3
 have c3b1 : ((l0.length : Int) != (l1.length : Int)) = true := bne_iff_ne.mpr c3
 have c3b2 : (l0.length == l1.length) = false := by first | simpa using c3 | (simp at c3 ⊢; omega)
 obtain rfl := Option.some.inj H
 go_enter Tryz.func22, Tryz.ntmps22
 go_wp2
 go_ret
 exact ⟨eR_, bw_ HB⟩
}
end Go.Proofs.YtkhhkpjeafknpaaGreatDoor.P
end

section
namespace Go.Proofs.YtkhhkpjeafknpaaGreatDoor.P
open Go.RowKit Go.Proofs.YtkhhkpjeafknpaaGreatDoorW.PrintWords Go.Proofs.YtkhhkpjeafknpaaGreatDoorW.PrintLast Go.Proofs.YtkhhkpjeafknpaaGreatDoorW.PrintMore Go.Proofs.YtkhhkpjeafknpaaGreatDoorM
attribute [local go_sem] max2_int min2_int max_two min_two max_three min_three max_four min_four
set_option linter.unusedVariables false
set_option linter.unusedSimpArgs false
def laws_toEntry.f (a0_0 : ByteArray) (a0_1 : Int) (a0_2 : ByteArray) (a0_3 : Bool) : Option (ByteArray × Int × ByteArray × Bool) := some (a0_0, a0_1, a0_2, a0_3)
set_option maxHeartbeats 8000000 in
set_option maxRecDepth 100000 in
theorem laws_toEntry.calls (a0_0 : ByteArray) (a0_1 : Int) (a0_2 : ByteArray) (a0_3 : Bool) (r1 : ByteArray) (r2 : Int) (r3 : ByteArray) (r4 : Bool) (w : World) (h : laws_toEntry.f a0_0 a0_1 a0_2 a0_3 = some (r1, r2, r3, r4)) :
 Calls Tryz.prog 47 #[.agg #[.string a0_0, .int .i64 a0_1, .string a0_2, .bool a0_3]] w fun e w' => e = .returned (.agg #[.string r1, .int .i64 r2, .string r3, .bool r4]) ∧ Below w.heap.size w w' := by
 have hu66 := Tryz.underlying66
 have hu70 := Tryz.underlying70
 have HB := Aside0.mk (Below.refl w.heap.size w)
 have H : (some (a0_0, a0_1, a0_2, a0_3)) = some (r1, r2, r3, r4) := h
 clear h
 simp only [Option.some.injEq, Prod.mk.injEq] at H
 obtain ⟨rfl, rfl, rfl, rfl⟩ := H
 go_enter Tryz.func47, Tryz.ntmps47
 go_wp2_with (first | ((with_reducible refine gate_dst (N := 1) rfl ?_); refine box_event ?hg (N := 1) ?hd (cs := #[.string a0_0, .int .i64 a0_1, .string a0_2, .bool a0_3]) (t := 66) ?hr ?_; (case hd => rfl); (case hg => rfl); (case hr => first | (go_simp; done) | (go_simp; rfl)); intro gb289 hg w2 hbox hb; have n0_ := Aside0.mk (below_step (bw_ HB) hb); have n1_ := Aside0.mk (hbox); have n2_ := Aside0.mk ((by rw [hg]; exact (below_size (bw_ HB)) : w.heap.size ≤ gb289)); have n3_ := Aside0.mk ((by rw [hg]; exact (below_size (bw_ HB)) : w.heap.size ≤ gb289)); clear HB; have HB := n0_; have BK289 := n1_; have GW289 := n2_; have GE289 := n3_; clear n0_ n1_ n2_ n3_; clear hb hbox hg) | ((with_reducible refine gate_dst (N := 2) rfl ?_); refine box_event ?hg (N := 2) ?hd (cs := #[.string (⟨#[]⟩ : ByteArray), .int .i64 0, .string (⟨#[]⟩ : ByteArray), .bool false]) (t := 70) ?hr ?_; (case hd => rfl); (case hg => rfl); (case hr => first | (go_simp; done) | (go_simp; rfl)); intro gb290 hg w3 hbox hb; have n0_ := Aside0.mk (blk_below (g := gb289) (o := .cells #[.string a0_0, .int .i64 a0_1, .string a0_2, .bool a0_3] 66 (0, 0)) (by (with_reducible repeat (first | refine blk_drewN ?_ _ | refine blk_drew ?_ | refine blk_alloc ?_ _)); exact BK289.out) hb); have n1_ := Aside0.mk (below_step (bw1_ HB GE289) hb); have n2_ := Aside0.mk (hbox); have n3_ := Aside0.mk ((by rw [hg]; exact (below_size (bw1_ HB GE289)) : w.heap.size ≤ gb290)); have n4_ := Aside0.mk ((by rw [hg]; exact (below_size (bw1_ HB GE289)) : w.heap.size ≤ gb290)); have n5_ := Aside0.mk ((by rw [hg]; exact Nat.ne_of_lt (blk_lt (g := gb289) (o := .cells #[.string a0_0, .int .i64 a0_1, .string a0_2, .bool a0_3] 66 (0, 0)) (by (with_reducible repeat (first | refine blk_drewN ?_ _ | refine blk_drew ?_ | refine blk_alloc ?_ _)); exact BK289.out)) : gb289 ≠ gb290)); have n6_ := Aside0.mk ((by rw [hg]; exact Nat.ne_of_gt (blk_lt (g := gb289) (o := .cells #[.string a0_0, .int .i64 a0_1, .string a0_2, .bool a0_3] 66 (0, 0)) (by (with_reducible repeat (first | refine blk_drewN ?_ _ | refine blk_drew ?_ | refine blk_alloc ?_ _)); exact BK289.out)) : gb290 ≠ gb289)); clear BK289; clear HB; have BK289 := n0_; have HB := n1_; have BK290 := n2_; have GW290 := n3_; have GE290 := n4_; have NB289_290 := n5_; have NB290_289 := n6_; clear n0_ n1_ n2_ n3_ n4_ n5_ n6_; clear hb hbox hg) | ((with_reducible refine gate_dst (N := 3) rfl ?_); refine box_event ?hg (N := 3) ?hd (cs := #[.string (⟨#[]⟩ : ByteArray), .int .i64 0, .string (⟨#[]⟩ : ByteArray), .bool false]) (t := 70) ?hr ?_; (case hd => rfl); (case hg => rfl); (case hr => first | (go_simp; done) | (go_simp; rfl)); intro gb291 hg w4 hbox hb; have n0_ := Aside0.mk (blk_below (g := gb289) (o := .cells #[.string a0_0, .int .i64 a0_1, .string a0_2, .bool a0_3] 66 (0, 0)) (by (with_reducible repeat (first | refine blk_drewN ?_ _ | refine blk_drew ?_ | refine blk_alloc ?_ _)); exact BK289.out) hb); have n1_ := Aside0.mk (blk_below (g := gb290) (o := .cells #[.string (⟨#[]⟩ : ByteArray), .int .i64 0, .string (⟨#[]⟩ : ByteArray), .bool false] 70 (0, 0)) (by (with_reducible repeat (first | refine blk_drewN ?_ _ | refine blk_drew ?_ | refine blk_alloc ?_ _)); exact BK290.out) hb); have n2_ := Aside0.mk (below_step (bw2_ HB GE289 GE290) hb); have n3_ := Aside0.mk (hbox); have n4_ := Aside0.mk ((by rw [hg]; exact (below_size (bw2_ HB GE289 GE290)) : w.heap.size ≤ gb291)); have n5_ := Aside0.mk ((by rw [hg]; exact (below_size (bw2_ HB GE289 GE290)) : w.heap.size ≤ gb291)); have n6_ := Aside0.mk ((by rw [hg]; exact Nat.ne_of_lt (blk_lt (g := gb289) (o := .cells #[.string a0_0, .int .i64 a0_1, .string a0_2, .bool a0_3] 66 (0, 0)) (by (with_reducible repeat (first | refine blk_drewN ?_ _ | refine blk_drew ?_ | refine blk_alloc ?_ _)); exact BK289.out)) : gb289 ≠ gb291)); have n7_ := Aside0.mk ((by rw [hg]; exact Nat.ne_of_gt (blk_lt (g := gb289) (o := .cells #[.string a0_0, .int .i64 a0_1, .string a0_2, .bool a0_3] 66 (0, 0)) (by (with_reducible repeat (first | refine blk_drewN ?_ _ | refine blk_drew ?_ | refine blk_alloc ?_ _)); exact BK289.out)) : gb291 ≠ gb289)); have n8_ := Aside0.mk ((by rw [hg]; exact Nat.ne_of_lt (blk_lt (g := gb290) (o := .cells #[.string (⟨#[]⟩ : ByteArray), .int .i64 0, .string (⟨#[]⟩ : ByteArray), .bool false] 70 (0, 0)) (by (with_reducible repeat (first | refine blk_drewN ?_ _ | refine blk_drew ?_ | refine blk_alloc ?_ _)); exact BK290.out)) : gb290 ≠ gb291)); have n9_ := Aside0.mk ((by rw [hg]; exact Nat.ne_of_gt (blk_lt (g := gb290) (o := .cells #[.string (⟨#[]⟩ : ByteArray), .int .i64 0, .string (⟨#[]⟩ : ByteArray), .bool false] 70 (0, 0)) (by (with_reducible repeat (first | refine blk_drewN ?_ _ | refine blk_drew ?_ | refine blk_alloc ?_ _)); exact BK290.out)) : gb291 ≠ gb290)); clear BK289; clear BK290; clear HB; have BK289 := n0_; have BK290 := n1_; have HB := n2_; have BK291 := n3_; have GW291 := n4_; have GE291 := n5_; have NB289_291 := n6_; have NB291_289 := n7_; have NB290_291 := n8_; have NB291_290 := n9_; clear n0_ n1_ n2_ n3_ n4_ n5_ n6_ n7_ n8_ n9_; clear hb hbox hg; have hnb5 := NB289_290.out; have hnc5 := NB290_289.out; have hnb6 := NB289_291.out; have hnc6 := NB291_289.out; have hcz7_0 : w4.cell? ⟨gb289, 0, none⟩ = some (.string a0_0) := (blk_cell BK289.out 0).trans rfl; have hcz7_1 : w4.cell? ⟨gb289, 1, none⟩ = some (.int .i64 a0_1) := (blk_cell BK289.out 1).trans rfl; have hcz7_2 : w4.cell? ⟨gb289, 2, none⟩ = some (.string a0_2) := (blk_cell BK289.out 2).trans rfl; have hcz7_3 : w4.cell? ⟨gb289, 3, none⟩ = some (.bool a0_3) := (blk_cell BK289.out 3).trans rfl; have hfz7_0 := blk_frozen BK289.out 0; have hfz7_1 := blk_frozen BK289.out 1; have hfz7_2 := blk_frozen BK289.out 2; have hfz7_3 := blk_frozen BK289.out 3; have hnb8 := NB291_290.out; have hnc8 := NB290_291.out; have hcz9_0 : w4.cell? ⟨gb291, 0, none⟩ = some (.string (⟨#[]⟩ : ByteArray)) := (blk_cell BK291.out 0).trans rfl; have hcz9_1 : w4.cell? ⟨gb291, 1, none⟩ = some (.int .i64 0) := (blk_cell BK291.out 1).trans rfl; have hcz9_2 : w4.cell? ⟨gb291, 2, none⟩ = some (.string (⟨#[]⟩ : ByteArray)) := (blk_cell BK291.out 2).trans rfl; have hcz9_3 : w4.cell? ⟨gb291, 3, none⟩ = some (.bool false) := (blk_cell BK291.out 3).trans rfl; have hfz9_0 := blk_frozen BK291.out 0; have hfz9_1 := blk_frozen BK291.out 1; have hfz9_2 := blk_frozen BK291.out 2; have hfz9_3 := blk_frozen BK291.out 3; have hcz10_0 : w4.cell? ⟨gb290, 0, none⟩ = some (.string (⟨#[]⟩ : ByteArray)) := (blk_cell BK290.out 0).trans rfl; have hcz10_1 : w4.cell? ⟨gb290, 1, none⟩ = some (.int .i64 0) := (blk_cell BK290.out 1).trans rfl; have hcz10_2 : w4.cell? ⟨gb290, 2, none⟩ = some (.string (⟨#[]⟩ : ByteArray)) := (blk_cell BK290.out 2).trans rfl; have hcz10_3 : w4.cell? ⟨gb290, 3, none⟩ = some (.bool false) := (blk_cell BK290.out 3).trans rfl; have hfz10_0 := blk_frozen BK290.out 0; have hfz10_1 := blk_frozen BK290.out 1; have hfz10_2 := blk_frozen BK290.out 2; have hfz10_3 := blk_frozen BK290.out 3))
 refine bodyPost_ret (results_cell_row rfl _ _ gb290 70 #[.string a0_0, .int .i64 a0_1, .string a0_2, .bool a0_3] (0, 0) _ rfl (by (with_reducible repeat (first | refine blk_drewN ?_ _ | refine blk_drew ?_ | refine blk_alloc ?_ _)); refine blk_put (cs := #[.string a0_0, .int .i64 a0_1, .string a0_2, .bool false]) ?_ 3 _ rfl; (with_reducible repeat (first | refine blk_drewN ?_ _ | refine blk_drew ?_ | refine blk_alloc ?_ _)); refine blk_put (cs := #[.string a0_0, .int .i64 a0_1, .string (⟨#[]⟩ : ByteArray), .bool false]) ?_ 2 _ rfl; (with_reducible repeat (first | refine blk_drewN ?_ _ | refine blk_drew ?_ | refine blk_alloc ?_ _)); refine blk_put (cs := #[.string a0_0, .int .i64 0, .string (⟨#[]⟩ : ByteArray), .bool false]) ?_ 1 _ rfl; (with_reducible repeat (first | refine blk_drewN ?_ _ | refine blk_drew ?_ | refine blk_alloc ?_ _)); refine blk_put (cs := #[.string (⟨#[]⟩ : ByteArray), .int .i64 0, .string (⟨#[]⟩ : ByteArray), .bool false]) ?_ 0 _ rfl; (with_reducible repeat (first | refine blk_drewN ?_ _ | refine blk_drew ?_ | refine blk_alloc ?_ _)); refine blk_far ?_ NB290_291.out _; (with_reducible repeat (first | refine blk_drewN ?_ _ | refine blk_drew ?_ | refine blk_alloc ?_ _)); refine blk_far ?_ NB290_291.out _; (with_reducible repeat (first | refine blk_drewN ?_ _ | refine blk_drew ?_ | refine blk_alloc ?_ _)); refine blk_far ?_ NB290_291.out _; (with_reducible repeat (first | refine blk_drewN ?_ _ | refine blk_drew ?_ | refine blk_alloc ?_ _)); refine blk_far ?_ NB290_291.out _; (with_reducible repeat (first | refine blk_drewN ?_ _ | refine blk_drew ?_ | refine blk_alloc ?_ _)); exact BK290.out) Tryz.underlying70 rfl (by kernel_rfl)) rfl ?_
 exact ⟨eR_, by repeat (first | (with_reducible first | exact HB.out | apply below_alloc | apply pw_below_drewN | apply below_drew1 | refine below_set ?_ GE289.out | refine below_set ?_ GE290.out | refine below_set ?_ GE291.out) | exact HB.out)⟩
def laws_toEntryS.l0 : Nat → List (S66) → List (S70) → Int → Option ((List (S70)))
 | 0, _, _, _ => none
 | k + 1, x0, x3, x4 => if x4 < (x0.length : Int) then (if 0 ≤ x4 then ((laws_toEntry.f ((rd_T66 x0 x4).f0) ((rd_T66 x0 x4).f1) ((rd_T66 x0 x4).f2) ((rd_T66 x0 x4).f3)).bind fun bt296 => (if x4 < (x3.length : Int) then (laws_toEntryS.l0 k x0 (x3.set (x4 : Int).toNat (⟨bt296.1, bt296.2.1, bt296.2.2.1, bt296.2.2.2⟩ : S70)) (wrap64 (x4 + 1))) else (none))) else (none)) else (some x3)
def laws_toEntryS.f (k : Nat) (l0 : List (S66)) : Option ((List (S70))) := if 0 ≤ (l0.length : Int) then (if ((l0.length : Int) : Int).toNat ≤ 5864062014805 then (laws_toEntryS.l0 k l0 (List.replicate ((l0.length : Int) : Int).toNat z70) 0) else (none)) else (none)
set_option maxHeartbeats 8000000 in
set_option maxRecDepth 100000 in
theorem laws_toEntryS.calls (k : Nat) (A0 : Option Addr) (c0 : Nat) (l0 : List (S66)) (r : List (S70)) (w : World) (hr0 : Kd.C k66 w A0 l0.length l0) (hc0 : l0.length ≤ c0) (h : laws_toEntryS.f k l0 = some r) :
 Calls Tryz.prog 20 #[.slice A0 l0.length c0] w fun e w' => ∃ v0_ : Value, e = .returned (v0_) ∧ Kd.R k70 70 w' w.heap.size (fun _ => True) v0_ r ∧ Below w.heap.size w w' := by
 have hu66 := Tryz.underlying66
 have hu70 := Tryz.underlying70
 have HR0 := Aside0.mk hr0
 have HC0 := Aside0.mk hc0
 clear hr0 hc0
 have HB := Aside0.mk (Below.refl w.heap.size w)
 have H : (if 0 ≤ (l0.length : Int) then (if ((l0.length : Int) : Int).toNat ≤ 5864062014805 then (laws_toEntryS.l0 k l0 (List.replicate ((l0.length : Int) : Int).toNat z70) 0) else (none)) else (none)) = some r := h
 clear h
 by_cases c2 : 0 ≤ (l0.length : Int)
 {
 rw [if_pos c2] at H
 have c2b0 := eq_true c2
 have c2b1 : decide (0 ≤ (l0.length : Int)) = true := decide_eq_true c2
 clear c2
 by_cases c3 : ((l0.length : Int) : Int).toNat ≤ 5864062014805
 {
 rw [if_pos c3] at H
 have c3b0 := eq_true c3
 have c3b1 : decide (((l0.length : Int) : Int).toNat ≤ 5864062014805) = true := decide_eq_true c3
 clear c3
 obtain ⟨y292, hy292⟩ : ∃ y_ : List (S70), y_ = (List.replicate ((l0.length : Int) : Int).toNat z70) := ⟨_, rfl⟩
 replace H : (laws_toEntryS.l0 k l0 y292 0) = some r := by first | (rw [hy292]; with_reducible exact H) | (have H2_ := (Option.bind_some _ _).symm.trans H; rw [hy292]; with_reducible exact H2_) | (have H2_ := (Option.bind_some _ _).symm.trans H; with_reducible exact H2_) | with_reducible exact H | (rw [hy292]; exact H) | exact H
 have Ny292 := Aside0.mk hy292
 clear hy292
 have H' := Aside0.mk H
 clear H
 go_enter Tryz.func20, Tryz.ntmps20
 go_wp2_with (first | ((with_reducible refine gate_dst (N := 7) rfl ?_); refine Kd.R_make k70 _ 70 rfl (N := 7) rfl 39 _ _ rfl (l0.length : Int) rfl rfl Tryz.underlying39 (.agg #[(.string ⟨#[]⟩), (.int .i64 0), (.string ⟨#[]⟩), (.bool false)]) 48 info70 rfl (by decide) (by omega) z70 (ok := fun _ => True) (okp := fun _ => True) (k70_mkM _ _ _ z70 ) (fun _ hk => hk) trivial (dA_) (Nat.le_trans (Nat.mul_le_mul_right _ (dA_ : (l0.length : Int).toNat ≤ 5864062014805)) (by omega)) (Below.refl _ _) (Nat.le_refl _) ?_; intro v293 w4 ho5 hb hg_ hnew_; clear hg_ hnew_; (first | rw [← Ny292.out] at ho5 | (simp only [Int.reduceToNat] at ho5; rw [← Ny292.out] at ho5)); have n0_ := Aside0.mk (Kd.R_lower ho5 (below_size (bw_ HB))); have n1_ := Aside0.mk (below_step (bw_ HB) hb); clear HB; have HO294 := n0_; have HB := n1_; clear n0_ n1_; clear hb ho5))
 go_loopg [4] k (fun kq v4 w' => ∃ (x3_1 : List (S70)) (x4_1 : Int), v4 = .int .i64 x4_1 ∧ Aside0 (laws_toEntryS.l0 kq l0 x3_1 x4_1 = some r) ∧ Aside0 (kq ≤ k) ∧ Aside0 (Kd.R k70 70 w' w.heap.size (fun _ => True) v293 x3_1) ∧ Aside0 (Below w.heap.size w w'))
 case atStart => exact ⟨(y292), (0), (by first | rfl | (simp; done) | (simp [*]; done)), H', ⟨Nat.le_refl _⟩, ⟨by (with_reducible repeat (first | apply Kd.R_alloc | apply Kd.R_drewN | apply Kd.R_drew)); exact HO294.out⟩, ⟨bw_ HB⟩⟩
 case round =>
  clear H'
  try clear c2
  try clear c2b0
  try clear c2b1
  try clear p2
  try clear c3
  try clear c3b0
  try clear c3b1
  obtain ⟨x3_1, x4_1, rfl, HA, HK1, HO_3, HB⟩ := hrel
  cases gk with
  | zero => exact absurd HA.out (by simp [laws_toEntryS.l0])
  | succ k1 =>
   have H := HA.out
   clear HA
   simp only [laws_toEntryS.l0] at H
   by_cases c6 : x4_1 < (l0.length : Int)
   {
   rw [if_pos c6] at H
   have c6b0 : decide (x4_1 < (l0.length : Int)) = true := decide_eq_true c6
   clear c6
   by_cases c7 : 0 ≤ x4_1
   {
   rw [if_pos c7] at H
   have c7b0 : decide (0 ≤ x4_1) = true := decide_eq_true c7
   clear c7
   replace H := Option.bind_eq_some_iff.mp H
   obtain ⟨⟨t296, t297, t298, t299⟩, A80, H⟩ := H
   have A8 := Aside0.mk A80
   clear A80
   by_cases c9 : x4_1 < (x3_1.length : Int)
   {
   rw [if_pos c9] at H
   have c9b0 : decide (x4_1 < (x3_1.length : Int)) = true := decide_eq_true c9
   clear c9
   obtain ⟨y300, hy300⟩ : ∃ y_ : List (S70), y_ = (x3_1.set (x4_1 : Int).toNat (⟨t296, t297, t298, t299⟩ : S70)) := ⟨_, rfl⟩
   replace H : (laws_toEntryS.l0 k1 l0 y300 (wrap64 (x4_1 + 1))) = some r := by first | (rw [hy300]; with_reducible exact H) | (have H2_ := (Option.bind_some _ _).symm.trans H; rw [hy300]; with_reducible exact H2_) | (have H2_ := (Option.bind_some _ _).symm.trans H; with_reducible exact H2_) | with_reducible exact H | (rw [hy300]; exact H) | exact H
   have Ny300 := Aside0.mk hy300
   clear hy300
   have H' := Aside0.mk H
   clear H
   have p295 : 0 ≤ (x4_1 : Int) := dA_
   have q295 : x4_1 < (l0.length : Int) := dA_
   obtain ⟨ad295, e295, hx295_0, hx295_1, hx295_2, hx295_3⟩ := at_T66 HR0.out x4_1 p295 q295
   cases e295
   replace hx295_0 := hX_ HB hx295_0
   replace hx295_1 := hX_ HB hx295_1
   replace hx295_2 := hX_ HB hx295_2
   replace hx295_3 := hX_ HB hx295_3
   replace p295 := eq_true p295
   replace q295 := eq_true q295
   go_wp2_with (first | ((with_reducible refine gate_callee (f := 47) rfl ?_); refine gL_ (some 20) Tryz.func47 #[.agg #[.string ((rd_T66 l0 x4_1).f0), .int .i64 ((rd_T66 l0 x4_1).f1), .string ((rd_T66 l0 x4_1).f2), .bool ((rd_T66 l0 x4_1).f3)]] ?_; (with_reducible refine (laws_toEntry.calls ((rd_T66 l0 x4_1).f0) ((rd_T66 l0 x4_1).f1) ((rd_T66 l0 x4_1).f2) ((rd_T66 l0 x4_1).f3) t296 t297 t298 t299 _ A8.out).mono ?_); rintro e w11 ⟨rfl, hb⟩; refine ⟨_, rfl, ?_⟩; have n0_ := Aside0.mk (Kd.R_below (by (with_reducible repeat (first | apply Kd.R_alloc | apply Kd.R_drewN | apply Kd.R_drew)); exact HO_3.out) hb); have n1_ := Aside0.mk (below_step (bw_ HB) hb); clear HO_3; clear HB; have HO_3 := n0_; have HB := n1_; clear n0_ n1_; (try clear hb); (try clear hb2); (try clear hk); (try clear hi); have p10 : 0 ≤ (x4_1 : Int) := dA_; have q10 : (x4_1 : Int) < ((x3_1.length : Int) : Int) := dA_; obtain ⟨go10, co10, eo10, gb10, gl10, cl10, HG10⟩ := Kd.R_form HO_3.out (by omega); (first | cases eo10 | (injection eo10 with ea_ en_ ec_; (first | subst ea_ | (injection ea_ with ea_; subst ea_)); subst ec_; clear en_)); have GB10 := Aside0.mk gb10; have GG10 := Aside0.mk HG10; clear gb10 gl10 HG10; obtain ⟨ce10, hcl10, hM10, hcc10, hfr10⟩ := Kd.R_elem HO_3.out z70 (x4_1 : Int) p10 q10; obtain rfl := k70_openM hM10; have hx10_0 : w11.cell? ⟨go10, (x4_1 : Int).toNat * 4, none⟩ = some (.string ((rd_T70 x3_1 x4_1).f0)) := hcc10 0 _ rfl; have hx10_1 : w11.cell? ⟨go10, (x4_1 : Int).toNat * 4 + 1, none⟩ = some (.int .i64 ((rd_T70 x3_1 x4_1).f1)) := hcc10 1 _ rfl; have hx10_2 : w11.cell? ⟨go10, (x4_1 : Int).toNat * 4 + 2, none⟩ = some (.string ((rd_T70 x3_1 x4_1).f2)) := hcc10 2 _ rfl; have hx10_3 : w11.cell? ⟨go10, (x4_1 : Int).toNat * 4 + 3, none⟩ = some (.bool ((rd_T70 x3_1 x4_1).f3)) := hcc10 3 _ rfl; have hf10_0 : w11.frozen? ⟨go10, (x4_1 : Int).toNat * 4, none⟩ = false := hfr10 0; have hf10_1 : w11.frozen? ⟨go10, (x4_1 : Int).toNat * 4 + 1, none⟩ = false := hfr10 1; have hf10_2 : w11.frozen? ⟨go10, (x4_1 : Int).toNat * 4 + 2, none⟩ = false := hfr10 2; have hf10_3 : w11.frozen? ⟨go10, (x4_1 : Int).toNat * 4 + 3, none⟩ = false := hfr10 3; clear hcl10 hcc10 hfr10; (try clear hM10); replace p10 := eq_true p10; replace q10 := eq_true q10; have HX12 := Aside0.mk (show Kd.R k70 70 w11 w.heap.size (fun _ => True) (.slice (some ⟨go10, 0, none⟩) x3_1.length co10) x3_1 from (by (with_reducible repeat (first | apply Kd.R_alloc | apply Kd.R_drewN | apply Kd.R_drew)); exact HO_3.out)); obtain ⟨ce12, hcl12, hM12, hcc12, hfr12⟩ := Kd.R_elem HX12.out z70 (x4_1 : Int) (dA_) (by have h_ : (x4_1 : Int) < ((x3_1.length : Int) : Int) := dA_; first | exact h_ | (have e_ := (Kd.R_reads' HO_3.out).1; omega) | simpa using h_); obtain rfl := k70_openM hM12; have HP12 := Kd.R_seg HX12.out (x4_1 : Int) (dA_) (by have h_ : (x4_1 : Int) < ((x3_1.length : Int) : Int) := dA_; first | exact h_ | (have e_ := (Kd.R_reads' HO_3.out).1; omega) | simpa using h_) (seg := [.string t296, .int .i64 t297, .string t298, .bool t299]) (j := 0) hcl12 hcc12 (show 4 ≤ 4 from by decide) (x' := (⟨t296, t297, t298, t299⟩ : S70)) (k70_mkM _ _ _ (⟨t296, t297, t298, t299⟩ : S70) ) (fun _ hk => hk); have hx12_0 := hcc12 0 _ rfl; (try simp only [show (k70).sz = 4 from rfl, Nat.mul_one, Nat.add_zero] at hx12_0); have hf12_0 := hfr12 0; (try simp only [show (k70).sz = 4 from rfl, Nat.mul_one, Nat.add_zero] at hf12_0); have hx12_1 := hcc12 1 _ rfl; (try simp only [show (k70).sz = 4 from rfl, Nat.mul_one, Nat.add_zero] at hx12_1); have hf12_1 := hfr12 1; (try simp only [show (k70).sz = 4 from rfl, Nat.mul_one, Nat.add_zero] at hf12_1); have hx12_2 := hcc12 2 _ rfl; (try simp only [show (k70).sz = 4 from rfl, Nat.mul_one, Nat.add_zero] at hx12_2); have hf12_2 := hfr12 2; (try simp only [show (k70).sz = 4 from rfl, Nat.mul_one, Nat.add_zero] at hf12_2); have hx12_3 := hcc12 3 _ rfl; (try simp only [show (k70).sz = 4 from rfl, Nat.mul_one, Nat.add_zero] at hx12_3); have hf12_3 := hfr12 3; (try simp only [show (k70).sz = 4 from rfl, Nat.mul_one, Nat.add_zero] at hf12_3); clear hcl12 hcc12 hfr12; (try clear hM12)) | ((with_reducible refine gate_store (t := 70) (p := 21) rfl ?_); refine store_event (t := 70) (p := 21) (v := ?vo_w13) (w1 := ((((w11.setCell ⟨go10, (x4_1 : Int).toNat * 4, none⟩ (.string t296)).setCell ⟨go10, (x4_1 : Int).toNat * 4 + 1, none⟩ (.int .i64 t297)).setCell ⟨go10, (x4_1 : Int).toNat * 4 + 2, none⟩ (.string t298)).setCell ⟨go10, (x4_1 : Int).toNat * 4 + 3, none⟩ (.bool t299))) ?hg ?ho ?hn ?hr ?_; (case ho => rfl); (case hg => rfl); (case hn => rfl); (case hr => first | (go_simp; done) | (go_simp; rfl)); intro w13 hw; have hg : w11.grownBy w13 (some go10) := (by rw [hw]; exact HP12.2); have hp_ : Kd.R k70 70 w13 w.heap.size (fun _ => True) (.slice (some ⟨go10, 0, none⟩) x3_1.length co10) y300 := (by rw [hw, Ny300.out]; exact HP12.1); clear HP12; have n0_ := Aside0.mk (hp_); have n1_ := Aside0.mk ((by rw [hw]; exact below_set (below_set (below_set (below_set (HB.out) GB10.out) GB10.out) GB10.out) GB10.out : Below w.heap.size w w13)); clear HO_3; clear HB; have HO_3 := n0_; have HB := n1_; clear n0_ n1_; clear hg hw hp_))
   go_roundg k1
   case measure => have := HK1.out; omega
   case rel => exact ⟨(y300), (wrap64 (x4_1 + 1)), (by first | rfl | (simp; done) | (simp [*]; done)), H', ⟨by have := HK1.out; omega⟩, ⟨by (with_reducible repeat (first | apply Kd.R_alloc | apply Kd.R_drewN | apply Kd.R_drew)); exact HO_3.out⟩, ⟨bw_ HB⟩⟩}
   {
   rw [if_neg c9] at H
   exact absurd H (by simp)}}
   {
   rw [if_neg c7] at H
   exact absurd H (by simp)}}
   {
   rw [if_neg c6] at H
   have c6b0 : decide (x4_1 < (l0.length : Int)) = false := decide_eq_false c6
   clear c6
   obtain rfl := Option.some.inj H
   go_wp2
   go_ret
   exact ⟨_, eR_, by (with_reducible repeat (first | apply Kd.R_alloc | apply Kd.R_drewN | apply Kd.R_drew)); exact HO_3.out, bw_ HB⟩}}
 {
 rw [if_neg c3] at H
 exact absurd H (by simp)}}
 {
 rw [if_neg c2] at H
 exact absurd H (by simp)
}
def laws_toStringS.l0 : Nat → List ByteArray → List ByteArray → Int → Option (List ByteArray)
 | 0, _, _, _ => none
 | k + 1, x0, x3, x4 => if x4 < (x0.length : Int) then (if 0 ≤ x4 then (if x4 < (x3.length : Int) then (laws_toStringS.l0 k x0 (x3.set (x4 : Int).toNat (rdOf ByteArray.empty x0 x4)) (wrap64 (x4 + 1))) else (none)) else (none)) else (some x3)
def laws_toStringS.f (k : Nat) (l0 : List ByteArray) : Option (List ByteArray) := if 0 ≤ (l0.length : Int) then (if ((l0.length : Int) : Int).toNat ≤ 17592186044416 then (laws_toStringS.l0 k l0 (List.replicate ((l0.length : Int) : Int).toNat (⟨#[]⟩ : ByteArray)) 0) else (none)) else (none)
set_option maxHeartbeats 8000000 in
set_option maxRecDepth 100000 in
theorem laws_toStringS.calls (k : Nat) (A0 : Option Addr) (c0 : Nat) (l0 : List ByteArray) (r : List ByteArray) (w : World) (hr0 : Kd.C Kd.string w A0 l0.length l0) (hc0 : l0.length ≤ c0) (h : laws_toStringS.f k l0 = some r) :
 Calls Tryz.prog 27 #[.slice A0 l0.length c0] w fun e w' => ∃ v0_ : Value, e = .returned (v0_) ∧ Kd.R Kd.string 9 w' w.heap.size (fun _ => True) v0_ r ∧ Below w.heap.size w w' := by
 have HR0 := Aside0.mk hr0
 have HC0 := Aside0.mk hc0
 clear hr0 hc0
 have HB := Aside0.mk (Below.refl w.heap.size w)
 have H : (if 0 ≤ (l0.length : Int) then (if ((l0.length : Int) : Int).toNat ≤ 17592186044416 then (laws_toStringS.l0 k l0 (List.replicate ((l0.length : Int) : Int).toNat (⟨#[]⟩ : ByteArray)) 0) else (none)) else (none)) = some r := h
 clear h
 by_cases c2 : 0 ≤ (l0.length : Int)
 {
 rw [if_pos c2] at H
 have c2b0 := eq_true c2
 have c2b1 : decide (0 ≤ (l0.length : Int)) = true := decide_eq_true c2
 clear c2
 by_cases c3 : ((l0.length : Int) : Int).toNat ≤ 17592186044416
 {
 rw [if_pos c3] at H
 have c3b0 := eq_true c3
 have c3b1 : decide (((l0.length : Int) : Int).toNat ≤ 17592186044416) = true := decide_eq_true c3
 clear c3
 obtain ⟨y301, hy301⟩ : ∃ y_ : List ByteArray, y_ = (List.replicate ((l0.length : Int) : Int).toNat (⟨#[]⟩ : ByteArray)) := ⟨_, rfl⟩
 replace H : (laws_toStringS.l0 k l0 y301 0) = some r := by first | (rw [hy301]; with_reducible exact H) | (have H2_ := (Option.bind_some _ _).symm.trans H; rw [hy301]; with_reducible exact H2_) | (have H2_ := (Option.bind_some _ _).symm.trans H; with_reducible exact H2_) | with_reducible exact H | (rw [hy301]; exact H) | exact H
 have Ny301 := Aside0.mk hy301
 clear hy301
 have H' := Aside0.mk H
 clear H
 go_enter Tryz.func27, Tryz.ntmps27
 go_wp2_with (first | ((with_reducible refine gate_dst (N := 7) rfl ?_); refine Kd.R_make Kd.string _ 9 rfl (N := 7) rfl 29 _ _ rfl (l0.length : Int) rfl rfl Tryz.underlying29 (.string ⟨#[]⟩) 16 info9 rfl (by decide) (by omega) (⟨#[]⟩ : ByteArray) (ok := fun _ => True) (okp := fun _ => True) rfl (fun _ hk => hk) trivial (dA_) (Nat.le_trans (Nat.mul_le_mul_right _ (dA_ : (l0.length : Int).toNat ≤ 17592186044416)) (by omega)) (Below.refl _ _) (Nat.le_refl _) ?_; intro v302 w4 ho5 hb hg_ hnew_; clear hg_ hnew_; (first | rw [← Ny301.out] at ho5 | (simp only [Int.reduceToNat] at ho5; rw [← Ny301.out] at ho5)); have n0_ := Aside0.mk (Kd.R_lower ho5 (below_size (bw_ HB))); have n1_ := Aside0.mk (below_step (bw_ HB) hb); clear HB; have HO303 := n0_; have HB := n1_; clear n0_ n1_; clear hb ho5))
 go_loopg [4] k (fun kq v4 w' => ∃ (x3_1 : List ByteArray) (x4_1 : Int), v4 = .int .i64 x4_1 ∧ Aside0 (laws_toStringS.l0 kq l0 x3_1 x4_1 = some r) ∧ Aside0 (kq ≤ k) ∧ Aside0 (Kd.R Kd.string 9 w' w.heap.size (fun _ => True) v302 x3_1) ∧ Aside0 (Below w.heap.size w w'))
 case atStart => exact ⟨(y301), (0), (by first | rfl | (simp; done) | (simp [*]; done)), H', ⟨Nat.le_refl _⟩, ⟨by (with_reducible repeat (first | apply Kd.R_alloc | apply Kd.R_drewN | apply Kd.R_drew)); exact HO303.out⟩, ⟨bw_ HB⟩⟩
 case round =>
  clear H'
  try clear c2
  try clear c2b0
  try clear c2b1
  try clear p2
  try clear c3
  try clear c3b0
  try clear c3b1
  obtain ⟨x3_1, x4_1, rfl, HA, HK1, HO_3, HB⟩ := hrel
  cases gk with
  | zero => exact absurd HA.out (by simp [laws_toStringS.l0])
  | succ k1 =>
   have H := HA.out
   clear HA
   simp only [laws_toStringS.l0] at H
   by_cases c6 : x4_1 < (l0.length : Int)
   {
   rw [if_pos c6] at H
   have c6b0 : decide (x4_1 < (l0.length : Int)) = true := decide_eq_true c6
   clear c6
   by_cases c7 : 0 ≤ x4_1
   {
   rw [if_pos c7] at H
   have c7b0 : decide (0 ≤ x4_1) = true := decide_eq_true c7
   clear c7
   by_cases c8 : x4_1 < (x3_1.length : Int)
   {
   rw [if_pos c8] at H
   have c8b0 : decide (x4_1 < (x3_1.length : Int)) = true := decide_eq_true c8
   clear c8
   obtain ⟨y305, hy305⟩ : ∃ y_ : List ByteArray, y_ = (x3_1.set (x4_1 : Int).toNat (rdOf ByteArray.empty l0 x4_1)) := ⟨_, rfl⟩
   replace H : (laws_toStringS.l0 k1 l0 y305 (wrap64 (x4_1 + 1))) = some r := by first | (rw [hy305]; with_reducible exact H) | (have H2_ := (Option.bind_some _ _).symm.trans H; rw [hy305]; with_reducible exact H2_) | (have H2_ := (Option.bind_some _ _).symm.trans H; with_reducible exact H2_) | with_reducible exact H | (rw [hy305]; exact H) | exact H
   have Ny305 := Aside0.mk hy305
   clear hy305
   have H' := Aside0.mk H
   clear H
   have p304 : 0 ≤ (x4_1 : Int) := dA_
   have q304 : x4_1 < (l0.length : Int) := dA_
   obtain ⟨ad304, e304, hx304_0⟩ := Kd.at_string HR0.out x4_1 p304 q304
   cases e304
   replace hx304_0 := hX_ HB hx304_0
   replace p304 := eq_true p304
   replace q304 := eq_true q304
   have p9 : 0 ≤ (x4_1 : Int) := dA_
   have q9 : (x4_1 : Int) < ((x3_1.length : Int) : Int) := dA_
   obtain ⟨go9, co9, eo9, gb9, gl9, cl9, HG9⟩ := Kd.R_form HO_3.out (by omega)
   (first | cases eo9 | (injection eo9 with ea_ en_ ec_; (first | subst ea_ | (injection ea_ with ea_; subst ea_)); subst ec_; clear en_))
   have GB9 := Aside0.mk gb9
   have GG9 := Aside0.mk HG9
   clear gb9 gl9 HG9
   obtain ⟨hx9_0, hf9_0⟩ := Kd.R_celln (⟨#[]⟩ : ByteArray) HO_3.out (x4_1 : Int) p9 q9
   replace p9 := eq_true p9
   replace q9 := eq_true q9
   have HP10 := Kd.R_putg HO_3.out (x4_1 : Int) (rdOf ByteArray.empty l0 x4_1)
   go_wp2_with (first | ((with_reducible refine gate_store (t := 9) (p := 20) rfl ?_); refine store_event (t := 9) (p := 20) (v := ?vo_w11) (w1 := (wr.setCell ⟨go9, (x4_1 : Int).toNat, none⟩ (.string (rdOf ByteArray.empty l0 x4_1)))) ?hg ?ho ?hn ?hr ?_; (case ho => rfl); (case hg => rfl); (case hn => rfl); (case hr => first | (go_simp; done) | (go_simp; rfl)); intro w11 hw; have hg : wr.grownBy w11 (some go9) := (by rw [hw]; exact HP10.2); have hp_ : Kd.R Kd.string 9 w11 w.heap.size (fun _ => True) (.slice (some ⟨go9, 0, none⟩) x3_1.length co9) y305 := (by rw [hw, Ny305.out]; exact HP10.1); clear HP10; have n0_ := Aside0.mk (hp_); have n1_ := Aside0.mk ((by rw [hw]; exact below_set (HB.out) GB9.out : Below w.heap.size w w11)); clear HO_3; clear HB; have HO_3 := n0_; have HB := n1_; clear n0_ n1_; clear hg hw hp_))
   go_roundg k1
   case measure => have := HK1.out; omega
   case rel => exact ⟨(y305), (wrap64 (x4_1 + 1)), (by first | rfl | (simp; done) | (simp [*]; done)), H', ⟨by have := HK1.out; omega⟩, ⟨by (with_reducible repeat (first | apply Kd.R_alloc | apply Kd.R_drewN | apply Kd.R_drew)); exact HO_3.out⟩, ⟨bw_ HB⟩⟩}
   {
   rw [if_neg c8] at H
   exact absurd H (by simp)}}
   {
   rw [if_neg c7] at H
   exact absurd H (by simp)}}
   {
   rw [if_neg c6] at H
   have c6b0 : decide (x4_1 < (l0.length : Int)) = false := decide_eq_false c6
   clear c6
   obtain rfl := Option.some.inj H
   go_wp2
   go_ret
   exact ⟨_, eR_, by (with_reducible repeat (first | apply Kd.R_alloc | apply Kd.R_drewN | apply Kd.R_drew)); exact HO_3.out, bw_ HB⟩}}
 {
 rw [if_neg c3] at H
 exact absurd H (by simp)}}
 {
 rw [if_neg c2] at H
 exact absurd H (by simp)
}
def laws_toItem.f (k : Nat) (a0_0 : ByteArray) (a0_1 : ByteArray) (l0_2 : List ByteArray) (a0_3 : ByteArray) (l0_4 : List (S66)) : Option (ByteArray × ByteArray × List ByteArray × ByteArray × (List (S70))) := (laws_toStringS.f k l0_2).bind fun t309 => ((laws_toEntryS.f k l0_4).bind fun t312 => (some (a0_0, a0_1, t309, a0_3, t312)))
set_option maxHeartbeats 8000000 in
set_option maxRecDepth 100000 in
theorem laws_toItem.calls (k : Nat) (a0_0 : ByteArray) (a0_1 : ByteArray) (A0_2 : Option Addr) (c0_2 : Nat) (l0_2 : List ByteArray) (a0_3 : ByteArray) (A0_4 : Option Addr) (c0_4 : Nat) (l0_4 : List (S66)) (r1 : ByteArray) (r2 : ByteArray) (r3 : List ByteArray) (r4 : ByteArray) (r5 : List (S70)) (w : World) (hr0_2 : Kd.C Kd.string w A0_2 l0_2.length l0_2) (hc0_2 : l0_2.length ≤ c0_2) (hr0_4 : Kd.C k66 w A0_4 l0_4.length l0_4) (hc0_4 : l0_4.length ≤ c0_4) (h : laws_toItem.f k a0_0 a0_1 l0_2 a0_3 l0_4 = some (r1, r2, r3, r4, r5)) :
 Calls Tryz.prog 32 #[.agg #[.string a0_0, .string a0_1, .slice A0_2 l0_2.length c0_2, .string a0_3, .slice A0_4 l0_4.length c0_4]] w fun e w' => ∃ v2_ v4_ : Value, e = .returned (.agg #[.string r1, .string r2, v2_, .string r4, v4_]) ∧ Kd.R Kd.string 9 w' w.heap.size (fun _ => True) v2_ r3 ∧ Kd.R k70 70 w' w.heap.size (fun _ => True) v4_ r5 ∧ Below w.heap.size w w' := by
 have hu50 := Tryz.underlying50
 have hu54 := Tryz.underlying54
 have HR0_2 := Aside0.mk hr0_2
 have HC0_2 := Aside0.mk hc0_2
 clear hr0_2 hc0_2
 have HR0_4 := Aside0.mk hr0_4
 have HC0_4 := Aside0.mk hc0_4
 clear hr0_4 hc0_4
 have HB := Aside0.mk (Below.refl w.heap.size w)
 have H : ((laws_toStringS.f k l0_2).bind fun t309 => ((laws_toEntryS.f k l0_4).bind fun t312 => (some (a0_0, a0_1, t309, a0_3, t312)))) = some (r1, r2, r3, r4, r5) := h
 clear h
 replace H := Option.bind_eq_some_iff.mp H
 obtain ⟨t309, A20, H⟩ := H
 have A2 := Aside0.mk A20
 clear A20
 replace H := Option.bind_eq_some_iff.mp H
 obtain ⟨t312, A30, H⟩ := H
 have A3 := Aside0.mk A30
 clear A30
 simp only [Option.some.injEq, Prod.mk.injEq] at H
 obtain ⟨rfl, rfl, rfl, rfl, rfl⟩ := H
 go_enter Tryz.func32, Tryz.ntmps32
 go_wp2_with (first | ((with_reducible refine gate_dst (N := 1) rfl ?_); refine box_event ?hg (N := 1) ?hd (cs := #[.string a0_0, .string a0_1, .slice A0_2 l0_2.length c0_2, .string a0_3, .slice A0_4 l0_4.length c0_4]) (t := 50) ?hr ?_; (case hd => rfl); (case hg => rfl); (case hr => first | (go_simp; done) | (go_simp; rfl)); intro gb306 hg w4 hbox hb; have n0_ := Aside0.mk (below_step (bw_ HB) hb); have n1_ := Aside0.mk (hbox); have n2_ := Aside0.mk ((by rw [hg]; exact (below_size (bw_ HB)) : w.heap.size ≤ gb306)); have n3_ := Aside0.mk ((by rw [hg]; exact (below_size (bw_ HB)) : w.heap.size ≤ gb306)); clear HB; have HB := n0_; have BK306 := n1_; have GW306 := n2_; have GE306 := n3_; clear n0_ n1_ n2_ n3_; clear hb hbox hg) | ((with_reducible refine gate_dst (N := 2) rfl ?_); refine box_event ?hg (N := 2) ?hd (cs := #[.string (⟨#[]⟩ : ByteArray), .string (⟨#[]⟩ : ByteArray), .slice none 0 0, .string (⟨#[]⟩ : ByteArray), .slice none 0 0]) (t := 54) ?hr ?_; (case hd => rfl); (case hg => rfl); (case hr => first | (go_simp; done) | (go_simp; rfl)); intro gb307 hg w5 hbox hb; have n0_ := Aside0.mk (blk_below (g := gb306) (o := .cells #[.string a0_0, .string a0_1, .slice A0_2 l0_2.length c0_2, .string a0_3, .slice A0_4 l0_4.length c0_4] 50 (0, 0)) (by (with_reducible repeat (first | refine blk_drewN ?_ _ | refine blk_drew ?_ | refine blk_alloc ?_ _)); exact BK306.out) hb); have n1_ := Aside0.mk (below_step (bw1_ HB GE306) hb); have n2_ := Aside0.mk (hbox); have n3_ := Aside0.mk ((by rw [hg]; exact (below_size (bw1_ HB GE306)) : w.heap.size ≤ gb307)); have n4_ := Aside0.mk ((by rw [hg]; exact (below_size (bw1_ HB GE306)) : w.heap.size ≤ gb307)); have n5_ := Aside0.mk ((by rw [hg]; exact Nat.ne_of_lt (blk_lt (g := gb306) (o := .cells #[.string a0_0, .string a0_1, .slice A0_2 l0_2.length c0_2, .string a0_3, .slice A0_4 l0_4.length c0_4] 50 (0, 0)) (by (with_reducible repeat (first | refine blk_drewN ?_ _ | refine blk_drew ?_ | refine blk_alloc ?_ _)); exact BK306.out)) : gb306 ≠ gb307)); have n6_ := Aside0.mk ((by rw [hg]; exact Nat.ne_of_gt (blk_lt (g := gb306) (o := .cells #[.string a0_0, .string a0_1, .slice A0_2 l0_2.length c0_2, .string a0_3, .slice A0_4 l0_4.length c0_4] 50 (0, 0)) (by (with_reducible repeat (first | refine blk_drewN ?_ _ | refine blk_drew ?_ | refine blk_alloc ?_ _)); exact BK306.out)) : gb307 ≠ gb306)); clear BK306; clear HB; have BK306 := n0_; have HB := n1_; have BK307 := n2_; have GW307 := n3_; have GE307 := n4_; have NB306_307 := n5_; have NB307_306 := n6_; clear n0_ n1_ n2_ n3_ n4_ n5_ n6_; clear hb hbox hg) | ((with_reducible refine gate_dst (N := 3) rfl ?_); refine box_event ?hg (N := 3) ?hd (cs := #[.string (⟨#[]⟩ : ByteArray), .string (⟨#[]⟩ : ByteArray), .slice none 0 0, .string (⟨#[]⟩ : ByteArray), .slice none 0 0]) (t := 54) ?hr ?_; (case hd => rfl); (case hg => rfl); (case hr => first | (go_simp; done) | (go_simp; rfl)); intro gb308 hg w6 hbox hb; have n0_ := Aside0.mk (blk_below (g := gb306) (o := .cells #[.string a0_0, .string a0_1, .slice A0_2 l0_2.length c0_2, .string a0_3, .slice A0_4 l0_4.length c0_4] 50 (0, 0)) (by (with_reducible repeat (first | refine blk_drewN ?_ _ | refine blk_drew ?_ | refine blk_alloc ?_ _)); exact BK306.out) hb); have n1_ := Aside0.mk (blk_below (g := gb307) (o := .cells #[.string (⟨#[]⟩ : ByteArray), .string (⟨#[]⟩ : ByteArray), .slice none 0 0, .string (⟨#[]⟩ : ByteArray), .slice none 0 0] 54 (0, 0)) (by (with_reducible repeat (first | refine blk_drewN ?_ _ | refine blk_drew ?_ | refine blk_alloc ?_ _)); exact BK307.out) hb); have n2_ := Aside0.mk (below_step (bw2_ HB GE306 GE307) hb); have n3_ := Aside0.mk (hbox); have n4_ := Aside0.mk ((by rw [hg]; exact (below_size (bw2_ HB GE306 GE307)) : w.heap.size ≤ gb308)); have n5_ := Aside0.mk ((by rw [hg]; exact (below_size (bw2_ HB GE306 GE307)) : w.heap.size ≤ gb308)); have n6_ := Aside0.mk ((by rw [hg]; exact Nat.ne_of_lt (blk_lt (g := gb306) (o := .cells #[.string a0_0, .string a0_1, .slice A0_2 l0_2.length c0_2, .string a0_3, .slice A0_4 l0_4.length c0_4] 50 (0, 0)) (by (with_reducible repeat (first | refine blk_drewN ?_ _ | refine blk_drew ?_ | refine blk_alloc ?_ _)); exact BK306.out)) : gb306 ≠ gb308)); have n7_ := Aside0.mk ((by rw [hg]; exact Nat.ne_of_gt (blk_lt (g := gb306) (o := .cells #[.string a0_0, .string a0_1, .slice A0_2 l0_2.length c0_2, .string a0_3, .slice A0_4 l0_4.length c0_4] 50 (0, 0)) (by (with_reducible repeat (first | refine blk_drewN ?_ _ | refine blk_drew ?_ | refine blk_alloc ?_ _)); exact BK306.out)) : gb308 ≠ gb306)); have n8_ := Aside0.mk ((by rw [hg]; exact Nat.ne_of_lt (blk_lt (g := gb307) (o := .cells #[.string (⟨#[]⟩ : ByteArray), .string (⟨#[]⟩ : ByteArray), .slice none 0 0, .string (⟨#[]⟩ : ByteArray), .slice none 0 0] 54 (0, 0)) (by (with_reducible repeat (first | refine blk_drewN ?_ _ | refine blk_drew ?_ | refine blk_alloc ?_ _)); exact BK307.out)) : gb307 ≠ gb308)); have n9_ := Aside0.mk ((by rw [hg]; exact Nat.ne_of_gt (blk_lt (g := gb307) (o := .cells #[.string (⟨#[]⟩ : ByteArray), .string (⟨#[]⟩ : ByteArray), .slice none 0 0, .string (⟨#[]⟩ : ByteArray), .slice none 0 0] 54 (0, 0)) (by (with_reducible repeat (first | refine blk_drewN ?_ _ | refine blk_drew ?_ | refine blk_alloc ?_ _)); exact BK307.out)) : gb308 ≠ gb307)); clear BK306; clear BK307; clear HB; have BK306 := n0_; have BK307 := n1_; have HB := n2_; have BK308 := n3_; have GW308 := n4_; have GE308 := n5_; have NB306_308 := n6_; have NB308_306 := n7_; have NB307_308 := n8_; have NB308_307 := n9_; clear n0_ n1_ n2_ n3_ n4_ n5_ n6_ n7_ n8_ n9_; clear hb hbox hg; have hnb7 := NB306_307.out; have hnc7 := NB307_306.out; have hnb8 := NB306_308.out; have hnc8 := NB308_306.out; have hcz9_0 : w6.cell? ⟨gb306, 0, none⟩ = some (.string a0_0) := (blk_cell BK306.out 0).trans rfl; have hcz9_1 : w6.cell? ⟨gb306, 1, none⟩ = some (.string a0_1) := (blk_cell BK306.out 1).trans rfl; have hcz9_2 : w6.cell? ⟨gb306, 2, none⟩ = some (.slice A0_2 l0_2.length c0_2) := (blk_cell BK306.out 2).trans rfl; have hcz9_3 : w6.cell? ⟨gb306, 3, none⟩ = some (.string a0_3) := (blk_cell BK306.out 3).trans rfl; have hcz9_4 : w6.cell? ⟨gb306, 4, none⟩ = some (.slice A0_4 l0_4.length c0_4) := (blk_cell BK306.out 4).trans rfl; have hfz9_0 := blk_frozen BK306.out 0; have hfz9_1 := blk_frozen BK306.out 1; have hfz9_2 := blk_frozen BK306.out 2; have hfz9_3 := blk_frozen BK306.out 3; have hfz9_4 := blk_frozen BK306.out 4; have hnb10 := NB308_307.out; have hnc10 := NB307_308.out; have hcz11_0 : w6.cell? ⟨gb308, 0, none⟩ = some (.string (⟨#[]⟩ : ByteArray)) := (blk_cell BK308.out 0).trans rfl; have hcz11_1 : w6.cell? ⟨gb308, 1, none⟩ = some (.string (⟨#[]⟩ : ByteArray)) := (blk_cell BK308.out 1).trans rfl; have hcz11_2 : w6.cell? ⟨gb308, 2, none⟩ = some (.slice none 0 0) := (blk_cell BK308.out 2).trans rfl; have hcz11_3 : w6.cell? ⟨gb308, 3, none⟩ = some (.string (⟨#[]⟩ : ByteArray)) := (blk_cell BK308.out 3).trans rfl; have hcz11_4 : w6.cell? ⟨gb308, 4, none⟩ = some (.slice none 0 0) := (blk_cell BK308.out 4).trans rfl; have hfz11_0 := blk_frozen BK308.out 0; have hfz11_1 := blk_frozen BK308.out 1; have hfz11_2 := blk_frozen BK308.out 2; have hfz11_3 := blk_frozen BK308.out 3; have hfz11_4 := blk_frozen BK308.out 4) | ((with_reducible refine gate_callee (f := 27) rfl ?_); refine gL_ (some 12) Tryz.func27 #[.slice A0_2 l0_2.length c0_2] ?_; (with_reducible refine (laws_toStringS.calls k _ _ l0_2 t309 _ ?side1 ?side2 A2.out).mono ?_); (case side1 => exact Kd.C_below HR0_2.out (by repeat (first | (with_reducible first | exact HB.out | apply below_alloc | apply pw_below_drewN | apply below_drew1 | refine below_set ?_ GE306.out | refine below_set ?_ GE307.out | refine below_set ?_ GE308.out) | exact HB.out))); (case side2 => exact HC0_2.out); rintro e w12 ⟨v310, rfl, ho0, hb⟩; refine ⟨_, rfl, ?_⟩; have n0_ := Aside0.mk (Kd.R_lower ho0 (below_size (by repeat (first | (with_reducible first | exact HB.out | apply below_alloc | apply pw_below_drewN | apply below_drew1 | refine below_set ?_ GE306.out | refine below_set ?_ GE307.out | refine below_set ?_ GE308.out) | exact HB.out)))); have n1_ := Aside0.mk (blk_below (g := gb306) (o := .cells #[.string a0_0, .string a0_1, .slice A0_2 l0_2.length c0_2, .string a0_3, .slice A0_4 l0_4.length c0_4] 50 (0, 0)) (by (with_reducible repeat (first | refine blk_drewN ?_ _ | refine blk_drew ?_ | refine blk_alloc ?_ _)); refine blk_far ?_ NB306_308.out _; (with_reducible repeat (first | refine blk_drewN ?_ _ | refine blk_drew ?_ | refine blk_alloc ?_ _)); refine blk_far ?_ NB306_308.out _; (with_reducible repeat (first | refine blk_drewN ?_ _ | refine blk_drew ?_ | refine blk_alloc ?_ _)); exact BK306.out) hb); have n2_ := Aside0.mk (blk_below (g := gb307) (o := .cells #[.string (⟨#[]⟩ : ByteArray), .string (⟨#[]⟩ : ByteArray), .slice none 0 0, .string (⟨#[]⟩ : ByteArray), .slice none 0 0] 54 (0, 0)) (by (with_reducible repeat (first | refine blk_drewN ?_ _ | refine blk_drew ?_ | refine blk_alloc ?_ _)); refine blk_far ?_ NB307_308.out _; (with_reducible repeat (first | refine blk_drewN ?_ _ | refine blk_drew ?_ | refine blk_alloc ?_ _)); refine blk_far ?_ NB307_308.out _; (with_reducible repeat (first | refine blk_drewN ?_ _ | refine blk_drew ?_ | refine blk_alloc ?_ _)); exact BK307.out) hb); have n3_ := Aside0.mk (blk_below (g := gb308) (o := .cells #[.string a0_0, .string a0_1, .slice none 0 0, .string (⟨#[]⟩ : ByteArray), .slice none 0 0] 54 (0, 0)) (by (with_reducible repeat (first | refine blk_drewN ?_ _ | refine blk_drew ?_ | refine blk_alloc ?_ _)); refine blk_put (cs := #[.string a0_0, .string (⟨#[]⟩ : ByteArray), .slice none 0 0, .string (⟨#[]⟩ : ByteArray), .slice none 0 0]) ?_ 1 _ rfl; (with_reducible repeat (first | refine blk_drewN ?_ _ | refine blk_drew ?_ | refine blk_alloc ?_ _)); refine blk_put (cs := #[.string (⟨#[]⟩ : ByteArray), .string (⟨#[]⟩ : ByteArray), .slice none 0 0, .string (⟨#[]⟩ : ByteArray), .slice none 0 0]) ?_ 0 _ rfl; (with_reducible repeat (first | refine blk_drewN ?_ _ | refine blk_drew ?_ | refine blk_alloc ?_ _)); exact BK308.out) hb); have n4_ := Aside0.mk (below_step (by repeat (first | (with_reducible first | exact HB.out | apply below_alloc | apply pw_below_drewN | apply below_drew1 | refine below_set ?_ GE306.out | refine below_set ?_ GE307.out | refine below_set ?_ GE308.out) | exact HB.out)) hb); clear BK306; clear BK307; clear BK308; clear HB; have HO311 := n0_; have BK306 := n1_; have BK307 := n2_; have BK308 := n3_; have HB := n4_; clear n0_ n1_ n2_ n3_ n4_; (try clear hb); (try clear hb2); (try clear hk); (try clear hi); (try clear ho0); obtain ⟨Ao13, co13, eo13⟩ := Kd.R_slice HO311.out; subst eo13; have hcz14_0 : w12.cell? ⟨gb308, 0, none⟩ = some (.string a0_0) := (blk_cell BK308.out 0).trans rfl; have hcz14_1 : w12.cell? ⟨gb308, 1, none⟩ = some (.string a0_1) := (blk_cell BK308.out 1).trans rfl; have hcz14_2 : w12.cell? ⟨gb308, 2, none⟩ = some (.slice none 0 0) := (blk_cell BK308.out 2).trans rfl; have hcz14_3 : w12.cell? ⟨gb308, 3, none⟩ = some (.string (⟨#[]⟩ : ByteArray)) := (blk_cell BK308.out 3).trans rfl; have hcz14_4 : w12.cell? ⟨gb308, 4, none⟩ = some (.slice none 0 0) := (blk_cell BK308.out 4).trans rfl; have hfz14_0 := blk_frozen BK308.out 0; have hfz14_1 := blk_frozen BK308.out 1; have hfz14_2 := blk_frozen BK308.out 2; have hfz14_3 := blk_frozen BK308.out 3; have hfz14_4 := blk_frozen BK308.out 4; have hcz15_0 : w12.cell? ⟨gb306, 0, none⟩ = some (.string a0_0) := (blk_cell BK306.out 0).trans rfl; have hcz15_1 : w12.cell? ⟨gb306, 1, none⟩ = some (.string a0_1) := (blk_cell BK306.out 1).trans rfl; have hcz15_2 : w12.cell? ⟨gb306, 2, none⟩ = some (.slice A0_2 l0_2.length c0_2) := (blk_cell BK306.out 2).trans rfl; have hcz15_3 : w12.cell? ⟨gb306, 3, none⟩ = some (.string a0_3) := (blk_cell BK306.out 3).trans rfl; have hcz15_4 : w12.cell? ⟨gb306, 4, none⟩ = some (.slice A0_4 l0_4.length c0_4) := (blk_cell BK306.out 4).trans rfl; have hfz15_0 := blk_frozen BK306.out 0; have hfz15_1 := blk_frozen BK306.out 1; have hfz15_2 := blk_frozen BK306.out 2; have hfz15_3 := blk_frozen BK306.out 3; have hfz15_4 := blk_frozen BK306.out 4) | ((with_reducible refine gate_callee (f := 20) rfl ?_); refine gL_ (some 19) Tryz.func20 #[.slice A0_4 l0_4.length c0_4] ?_; (with_reducible refine (laws_toEntryS.calls k _ _ l0_4 t312 _ ?side1 ?side2 A3.out).mono ?_); (case side1 => exact Kd.C_below HR0_4.out (by repeat (first | (with_reducible first | exact HB.out | apply below_alloc | apply pw_below_drewN | apply below_drew1 | refine below_set ?_ GE306.out | refine below_set ?_ GE307.out | refine below_set ?_ GE308.out) | exact HB.out))); (case side2 => exact HC0_4.out); rintro e w16 ⟨v313, rfl, ho0, hb⟩; refine ⟨_, rfl, ?_⟩; have n0_ := Aside0.mk (Kd.R_below (by (with_reducible repeat (first | apply Kd.R_alloc | apply Kd.R_drewN | apply Kd.R_drew)); exact (Kd.R_mono (Kd.R_far (p := ⟨gb308, 3, none⟩) (Kd.R_far (p := ⟨gb308, 2, none⟩) (Kd.R_types HO311.out BK308.out (by decide)) (fun _ hk => hk.2) (.slice Ao13 t309.length co13)) (fun _ hk => hk.2) (.string a0_3)) (fun _ h_ => h_.1))) hb); have n1_ := Aside0.mk (Kd.R_lower ho0 (below_size (by repeat (first | (with_reducible first | exact HB.out | apply below_alloc | apply pw_below_drewN | apply below_drew1 | refine below_set ?_ GE306.out | refine below_set ?_ GE307.out | refine below_set ?_ GE308.out) | exact HB.out)))); have n2_ := Aside0.mk (blk_below (g := gb306) (o := .cells #[.string a0_0, .string a0_1, .slice A0_2 l0_2.length c0_2, .string a0_3, .slice A0_4 l0_4.length c0_4] 50 (0, 0)) (by (with_reducible repeat (first | refine blk_drewN ?_ _ | refine blk_drew ?_ | refine blk_alloc ?_ _)); refine blk_far ?_ NB306_308.out _; (with_reducible repeat (first | refine blk_drewN ?_ _ | refine blk_drew ?_ | refine blk_alloc ?_ _)); refine blk_far ?_ NB306_308.out _; (with_reducible repeat (first | refine blk_drewN ?_ _ | refine blk_drew ?_ | refine blk_alloc ?_ _)); exact BK306.out) hb); have n3_ := Aside0.mk (blk_below (g := gb307) (o := .cells #[.string (⟨#[]⟩ : ByteArray), .string (⟨#[]⟩ : ByteArray), .slice none 0 0, .string (⟨#[]⟩ : ByteArray), .slice none 0 0] 54 (0, 0)) (by (with_reducible repeat (first | refine blk_drewN ?_ _ | refine blk_drew ?_ | refine blk_alloc ?_ _)); refine blk_far ?_ NB307_308.out _; (with_reducible repeat (first | refine blk_drewN ?_ _ | refine blk_drew ?_ | refine blk_alloc ?_ _)); refine blk_far ?_ NB307_308.out _; (with_reducible repeat (first | refine blk_drewN ?_ _ | refine blk_drew ?_ | refine blk_alloc ?_ _)); exact BK307.out) hb); have n4_ := Aside0.mk (blk_below (g := gb308) (o := .cells #[.string a0_0, .string a0_1, .slice Ao13 t309.length co13, .string a0_3, .slice none 0 0] 54 (0, 0)) (by (with_reducible repeat (first | refine blk_drewN ?_ _ | refine blk_drew ?_ | refine blk_alloc ?_ _)); refine blk_put (cs := #[.string a0_0, .string a0_1, .slice Ao13 t309.length co13, .string (⟨#[]⟩ : ByteArray), .slice none 0 0]) ?_ 3 _ rfl; (with_reducible repeat (first | refine blk_drewN ?_ _ | refine blk_drew ?_ | refine blk_alloc ?_ _)); refine blk_put (cs := #[.string a0_0, .string a0_1, .slice none 0 0, .string (⟨#[]⟩ : ByteArray), .slice none 0 0]) ?_ 2 _ rfl; (with_reducible repeat (first | refine blk_drewN ?_ _ | refine blk_drew ?_ | refine blk_alloc ?_ _)); exact BK308.out) hb); have n5_ := Aside0.mk (below_step (by repeat (first | (with_reducible first | exact HB.out | apply below_alloc | apply pw_below_drewN | apply below_drew1 | refine below_set ?_ GE306.out | refine below_set ?_ GE307.out | refine below_set ?_ GE308.out) | exact HB.out)) hb); clear HO311; clear BK306; clear BK307; clear BK308; clear HB; have HO311 := n0_; have HO314 := n1_; have BK306 := n2_; have BK307 := n3_; have BK308 := n4_; have HB := n5_; clear n0_ n1_ n2_ n3_ n4_ n5_; (try clear hb); (try clear hb2); (try clear hk); (try clear hi); (try clear ho0); obtain ⟨Ao17, co17, eo17⟩ := Kd.R_slice HO314.out; subst eo17; have hcz18_0 : w16.cell? ⟨gb308, 0, none⟩ = some (.string a0_0) := (blk_cell BK308.out 0).trans rfl; have hcz18_1 : w16.cell? ⟨gb308, 1, none⟩ = some (.string a0_1) := (blk_cell BK308.out 1).trans rfl; have hcz18_2 : w16.cell? ⟨gb308, 2, none⟩ = some (.slice Ao13 t309.length co13) := (blk_cell BK308.out 2).trans rfl; have hcz18_3 : w16.cell? ⟨gb308, 3, none⟩ = some (.string a0_3) := (blk_cell BK308.out 3).trans rfl; have hcz18_4 : w16.cell? ⟨gb308, 4, none⟩ = some (.slice none 0 0) := (blk_cell BK308.out 4).trans rfl; have hfz18_0 := blk_frozen BK308.out 0; have hfz18_1 := blk_frozen BK308.out 1; have hfz18_2 := blk_frozen BK308.out 2; have hfz18_3 := blk_frozen BK308.out 3; have hfz18_4 := blk_frozen BK308.out 4; have hcz19_0 : w16.cell? ⟨gb307, 0, none⟩ = some (.string (⟨#[]⟩ : ByteArray)) := (blk_cell BK307.out 0).trans rfl; have hcz19_1 : w16.cell? ⟨gb307, 1, none⟩ = some (.string (⟨#[]⟩ : ByteArray)) := (blk_cell BK307.out 1).trans rfl; have hcz19_2 : w16.cell? ⟨gb307, 2, none⟩ = some (.slice none 0 0) := (blk_cell BK307.out 2).trans rfl; have hcz19_3 : w16.cell? ⟨gb307, 3, none⟩ = some (.string (⟨#[]⟩ : ByteArray)) := (blk_cell BK307.out 3).trans rfl; have hcz19_4 : w16.cell? ⟨gb307, 4, none⟩ = some (.slice none 0 0) := (blk_cell BK307.out 4).trans rfl; have hfz19_0 := blk_frozen BK307.out 0; have hfz19_1 := blk_frozen BK307.out 1; have hfz19_2 := blk_frozen BK307.out 2; have hfz19_3 := blk_frozen BK307.out 3; have hfz19_4 := blk_frozen BK307.out 4))
 refine bodyPost_ret (results_cell_row rfl _ _ gb307 54 #[.string a0_0, .string a0_1, .slice Ao13 t309.length co13, .string a0_3, .slice Ao17 t312.length co17] (0, 0) _ rfl (by (with_reducible repeat (first | refine blk_drewN ?_ _ | refine blk_drew ?_ | refine blk_alloc ?_ _)); refine blk_put (cs := #[.string a0_0, .string a0_1, .slice Ao13 t309.length co13, .string a0_3, .slice none 0 0]) ?_ 4 _ rfl; (with_reducible repeat (first | refine blk_drewN ?_ _ | refine blk_drew ?_ | refine blk_alloc ?_ _)); refine blk_put (cs := #[.string a0_0, .string a0_1, .slice Ao13 t309.length co13, .string (⟨#[]⟩ : ByteArray), .slice none 0 0]) ?_ 3 _ rfl; (with_reducible repeat (first | refine blk_drewN ?_ _ | refine blk_drew ?_ | refine blk_alloc ?_ _)); refine blk_put (cs := #[.string a0_0, .string a0_1, .slice none 0 0, .string (⟨#[]⟩ : ByteArray), .slice none 0 0]) ?_ 2 _ rfl; (with_reducible repeat (first | refine blk_drewN ?_ _ | refine blk_drew ?_ | refine blk_alloc ?_ _)); refine blk_put (cs := #[.string a0_0, .string (⟨#[]⟩ : ByteArray), .slice none 0 0, .string (⟨#[]⟩ : ByteArray), .slice none 0 0]) ?_ 1 _ rfl; (with_reducible repeat (first | refine blk_drewN ?_ _ | refine blk_drew ?_ | refine blk_alloc ?_ _)); refine blk_put (cs := #[.string (⟨#[]⟩ : ByteArray), .string (⟨#[]⟩ : ByteArray), .slice none 0 0, .string (⟨#[]⟩ : ByteArray), .slice none 0 0]) ?_ 0 _ rfl; (with_reducible repeat (first | refine blk_drewN ?_ _ | refine blk_drew ?_ | refine blk_alloc ?_ _)); refine blk_far ?_ NB307_308.out _; (with_reducible repeat (first | refine blk_drewN ?_ _ | refine blk_drew ?_ | refine blk_alloc ?_ _)); exact BK307.out) Tryz.underlying54 rfl (by kernel_rfl)) rfl ?_
 exact ⟨_, _, eR_, by (with_reducible repeat (first | apply Kd.R_alloc | apply Kd.R_drewN | apply Kd.R_drew)); exact Kd.R_mono (Kd.R_far (p := ⟨gb307, 4, none⟩) (Kd.R_far (p := ⟨gb307, 3, none⟩) (Kd.R_far (p := ⟨gb307, 2, none⟩) (Kd.R_far (p := ⟨gb307, 1, none⟩) (Kd.R_far (p := ⟨gb307, 0, none⟩) (Kd.R_far (p := ⟨gb308, 4, none⟩) (Kd.R_types (Kd.R_types HO311.out BK308.out (by decide)) BK307.out (by decide)) (fun _ hk => hk.1.2) (.slice Ao17 t312.length co17)) (fun _ hk => hk.2) (.string a0_0)) (fun _ hk => hk.2) (.string a0_1)) (fun _ hk => hk.2) (.slice Ao13 t309.length co13)) (fun _ hk => hk.2) (.string a0_3)) (fun _ hk => hk.2) (.slice Ao17 t312.length co17)) (fun _ hk => trivial), by (with_reducible repeat (first | apply Kd.R_alloc | apply Kd.R_drewN | apply Kd.R_drew)); exact Kd.R_mono (Kd.R_far (p := ⟨gb307, 4, none⟩) (Kd.R_far (p := ⟨gb307, 3, none⟩) (Kd.R_far (p := ⟨gb307, 2, none⟩) (Kd.R_far (p := ⟨gb307, 1, none⟩) (Kd.R_far (p := ⟨gb307, 0, none⟩) (Kd.R_far (p := ⟨gb308, 4, none⟩) (Kd.R_types (Kd.R_types HO314.out BK308.out (by decide)) BK307.out (by decide)) (fun _ hk => hk.1.2) (.slice Ao17 t312.length co17)) (fun _ hk => hk.2) (.string a0_0)) (fun _ hk => hk.2) (.string a0_1)) (fun _ hk => hk.2) (.slice Ao13 t309.length co13)) (fun _ hk => hk.2) (.string a0_3)) (fun _ hk => hk.2) (.slice Ao17 t312.length co17)) (fun _ hk => trivial), by repeat (first | (with_reducible first | exact HB.out | apply below_alloc | apply pw_below_drewN | apply below_drew1 | refine below_set ?_ GE306.out | refine below_set ?_ GE307.out | refine below_set ?_ GE308.out) | exact HB.out)⟩
def laws_toItemS.l0 : Nat → List (S50) → List (S54) → Int → Option ((List (S54)))
 | 0, _, _, _ => none
 | k + 1, x0, x3, x4 => if x4 < (x0.length : Int) then (if 0 ≤ x4 then ((laws_toItem.f k ((rd_T50 x0 x4).f0) ((rd_T50 x0 x4).f1) ((rd_T50 x0 x4).f2) ((rd_T50 x0 x4).f3) ((rd_T50 x0 x4).f4)).bind fun bt319 => (if x4 < (x3.length : Int) then (laws_toItemS.l0 k x0 (x3.set (x4 : Int).toNat (⟨bt319.1, bt319.2.1, bt319.2.2.1, bt319.2.2.2.1, bt319.2.2.2.2⟩ : S54)) (wrap64 (x4 + 1))) else (none))) else (none)) else (some x3)
def laws_toItemS.f (k : Nat) (l0 : List (S50)) : Option ((List (S54))) := if 0 ≤ (l0.length : Int) then (if ((l0.length : Int) : Int).toNat ≤ 2932031007402 then (laws_toItemS.l0 k l0 (List.replicate ((l0.length : Int) : Int).toNat z54) 0) else (none)) else (none)
set_option maxHeartbeats 8000000 in
set_option maxRecDepth 100000 in
theorem laws_toItemS.calls (k : Nat) (A0 : Option Addr) (c0 : Nat) (l0 : List (S50)) (r : List (S54)) (w : World) (hr0 : Kd.C k50 w A0 l0.length l0) (hc0 : l0.length ≤ c0) (h : laws_toItemS.f k l0 = some r) :
 Calls Tryz.prog 9 #[.slice A0 l0.length c0] w fun e w' => ∃ v0_ : Value, e = .returned (v0_) ∧ Kd.S k54 54 w' w.heap.size (fun _ => True) v0_ r ∧ Below w.heap.size w w' := by
 have hu50 := Tryz.underlying50
 have hu54 := Tryz.underlying54
 have HR0 := Aside0.mk hr0
 have HC0 := Aside0.mk hc0
 clear hr0 hc0
 have HB := Aside0.mk (Below.refl w.heap.size w)
 have H : (if 0 ≤ (l0.length : Int) then (if ((l0.length : Int) : Int).toNat ≤ 2932031007402 then (laws_toItemS.l0 k l0 (List.replicate ((l0.length : Int) : Int).toNat z54) 0) else (none)) else (none)) = some r := h
 clear h
 by_cases c2 : 0 ≤ (l0.length : Int)
 {
 rw [if_pos c2] at H
 have c2b0 := eq_true c2
 have c2b1 : decide (0 ≤ (l0.length : Int)) = true := decide_eq_true c2
 clear c2
 by_cases c3 : ((l0.length : Int) : Int).toNat ≤ 2932031007402
 {
 rw [if_pos c3] at H
 have c3b0 := eq_true c3
 have c3b1 : decide (((l0.length : Int) : Int).toNat ≤ 2932031007402) = true := decide_eq_true c3
 clear c3
 obtain ⟨y315, hy315⟩ : ∃ y_ : List (S54), y_ = (List.replicate ((l0.length : Int) : Int).toNat z54) := ⟨_, rfl⟩
 replace H : (laws_toItemS.l0 k l0 y315 0) = some r := by first | (rw [hy315]; with_reducible exact H) | (have H2_ := (Option.bind_some _ _).symm.trans H; rw [hy315]; with_reducible exact H2_) | (have H2_ := (Option.bind_some _ _).symm.trans H; with_reducible exact H2_) | with_reducible exact H | (rw [hy315]; exact H) | exact H
 have Ny315 := Aside0.mk hy315
 clear hy315
 have H' := Aside0.mk H
 clear H
 go_enter Tryz.func9, Tryz.ntmps9
 go_wp2_with (first | ((with_reducible refine gate_dst (N := 7) rfl ?_); refine Kd.S_make k54 _ 54 rfl (N := 7) rfl 25 _ _ rfl (l0.length : Int) rfl rfl Tryz.underlying25 (.agg #[(.string ⟨#[]⟩), (.string ⟨#[]⟩), (.slice none 0 0), (.string ⟨#[]⟩), (.slice none 0 0)]) 96 info54 rfl (by decide) (by omega) z54 (ok := fun _ => True) (okp := fun _ => True) (k54_mkM _ _ _ z54 (Kd.R_nil _ _ _ _ _) (Kd.R_nil _ _ _ _ _)) (fun _ hk => hk) trivial (dA_) (Nat.le_trans (Nat.mul_le_mul_right _ (dA_ : (l0.length : Int).toNat ≤ 2932031007402)) (by omega)) (Below.refl _ _) (Nat.le_refl _) ?_; intro v316 w4 ho5 hb hg_ hnew_; clear hg_ hnew_; (first | rw [← Ny315.out] at ho5 | (simp only [Int.reduceToNat] at ho5; rw [← Ny315.out] at ho5)); have n0_ := Aside0.mk (Kd.S_lower ho5 (below_size (bw_ HB))); have n1_ := Aside0.mk (below_step (bw_ HB) hb); clear HB; have HO317 := n0_; have HB := n1_; clear n0_ n1_; clear hb ho5))
 go_loopg [4] k (fun kq v4 w' => ∃ (x3_1 : List (S54)) (x4_1 : Int), v4 = .int .i64 x4_1 ∧ Aside0 (laws_toItemS.l0 kq l0 x3_1 x4_1 = some r) ∧ Aside0 (kq ≤ k) ∧ Aside0 (Kd.S k54 54 w' w.heap.size (fun _ => True) v316 x3_1) ∧ Aside0 (Below w.heap.size w w'))
 case atStart => exact ⟨(y315), (0), (by first | rfl | (simp; done) | (simp [*]; done)), H', ⟨Nat.le_refl _⟩, ⟨by (with_reducible repeat (first | apply Kd.S_alloc | apply Kd.S_drewN | apply Kd.S_drew)); exact HO317.out⟩, ⟨bw_ HB⟩⟩
 case round =>
  clear H'
  try clear c2
  try clear c2b0
  try clear c2b1
  try clear p2
  try clear c3
  try clear c3b0
  try clear c3b1
  obtain ⟨x3_1, x4_1, rfl, HA, HK1, HO_3, HB⟩ := hrel
  cases gk with
  | zero => exact absurd HA.out (by simp [laws_toItemS.l0])
  | succ k1 =>
   have H := HA.out
   clear HA
   simp only [laws_toItemS.l0] at H
   by_cases c6 : x4_1 < (l0.length : Int)
   {
   rw [if_pos c6] at H
   have c6b0 : decide (x4_1 < (l0.length : Int)) = true := decide_eq_true c6
   clear c6
   by_cases c7 : 0 ≤ x4_1
   {
   rw [if_pos c7] at H
   have c7b0 : decide (0 ≤ x4_1) = true := decide_eq_true c7
   clear c7
   replace H := Option.bind_eq_some_iff.mp H
   obtain ⟨⟨t319, t320, t321, t324, t325⟩, A80, H⟩ := H
   have A8 := Aside0.mk A80
   clear A80
   by_cases c9 : x4_1 < (x3_1.length : Int)
   {
   rw [if_pos c9] at H
   have c9b0 : decide (x4_1 < (x3_1.length : Int)) = true := decide_eq_true c9
   clear c9
   obtain ⟨y328, hy328⟩ : ∃ y_ : List (S54), y_ = (x3_1.set (x4_1 : Int).toNat (⟨t319, t320, t321, t324, t325⟩ : S54)) := ⟨_, rfl⟩
   replace H : (laws_toItemS.l0 k1 l0 y328 (wrap64 (x4_1 + 1))) = some r := by first | (rw [hy328]; with_reducible exact H) | (have H2_ := (Option.bind_some _ _).symm.trans H; rw [hy328]; with_reducible exact H2_) | (have H2_ := (Option.bind_some _ _).symm.trans H; with_reducible exact H2_) | with_reducible exact H | (rw [hy328]; exact H) | exact H
   have Ny328 := Aside0.mk hy328
   clear hy328
   have H' := Aside0.mk H
   clear H
   have p318 : 0 ≤ (x4_1 : Int) := dA_
   have q318 : x4_1 < (l0.length : Int) := dA_
   obtain ⟨ad318, A318_2, c318_2, A318_4, c318_4, e318, hx318_0, hx318_1, hx318_2, hx318_3, hx318_4, hl318_2, hi318_2, hl318_4, hi318_4⟩ := at_T50 HR0.out x4_1 p318 q318
   cases e318
   replace hx318_0 := hX_ HB hx318_0
   replace hx318_1 := hX_ HB hx318_1
   replace hx318_2 := hX_ HB hx318_2
   replace hx318_3 := hX_ HB hx318_3
   replace hx318_4 := hX_ HB hx318_4
   have HR318_2 := Aside0.mk hi318_2
   have HC318_2 := Aside0.mk hl318_2
   clear hi318_2 hl318_2
   have HR318_4 := Aside0.mk hi318_4
   have HC318_4 := Aside0.mk hl318_4
   clear hi318_4 hl318_4
   replace p318 := eq_true p318
   replace q318 := eq_true q318
   go_wp2_with (first | ((with_reducible refine gate_callee (f := 32) rfl ?_); refine gL_ (some 20) Tryz.func32 #[.agg #[.string ((rd_T50 l0 x4_1).f0), .string ((rd_T50 l0 x4_1).f1), .slice A318_2 ((rd_T50 l0 x4_1).f2).length c318_2, .string ((rd_T50 l0 x4_1).f3), .slice A318_4 ((rd_T50 l0 x4_1).f4).length c318_4]] ?_; (with_reducible refine (laws_toItem.calls k1 ((rd_T50 l0 x4_1).f0) ((rd_T50 l0 x4_1).f1) _ _ ((rd_T50 l0 x4_1).f2) ((rd_T50 l0 x4_1).f3) _ _ ((rd_T50 l0 x4_1).f4) t319 t320 t321 t324 t325 _ ?side1 ?side2 ?side3 ?side4 A8.out).mono ?_); (case side1 => exact cS_ HR318_2 HB); (case side2 => exact HC318_2.out); (case side3 => exact cS_ HR318_4 HB); (case side4 => exact HC318_4.out); rintro e w11 ⟨v322, v326, rfl, ho0, ho1, hb⟩; refine ⟨_, rfl, ?_⟩; have n0_ := Aside0.mk (Kd.S_mono (Kd.S_told (Kd.S_told (Kd.S_old (by (with_reducible repeat (first | apply Kd.S_alloc | apply Kd.S_drewN | apply Kd.S_drew)); exact HO_3.out) hb) (Kd.R_base ho0)) (Kd.R_base ho1)) (fun _ h_ => h_.1)); have n1_ := Aside0.mk (Kd.R_lower ho0 (below_size (bw_ HB))); have n2_ := Aside0.mk (Kd.R_lower ho1 (below_size (bw_ HB))); have n3_ := Aside0.mk (below_step (bw_ HB) hb); clear HO_3; clear HB; have HO_3 := n0_; have HO323 := n1_; have HO327 := n2_; have HB := n3_; clear n0_ n1_ n2_ n3_; (try clear hb); (try clear hb2); (try clear hk); (try clear hi); (try clear ho0); (try clear ho1); have p10 : 0 ≤ (x4_1 : Int) := dA_; have q10 : (x4_1 : Int) < ((x3_1.length : Int) : Int) := dA_; obtain ⟨go10, co10, eo10, gb10, gl10, cl10, HG10⟩ := Kd.S_form HO_3.out (by omega); (first | cases eo10 | (injection eo10 with ea_ en_ ec_; (first | subst ea_ | (injection ea_ with ea_; subst ea_)); subst ec_; clear en_)); have GB10 := Aside0.mk gb10; have GG10 := Aside0.mk HG10; clear gb10 gl10 HG10; obtain ⟨_, ce10, hcl10, hM10, hcc10, hfr10, _, _⟩ := Kd.S_elem HO_3.out z54 (x4_1 : Int) p10 q10; obtain ⟨ve10_2, ve10_4, rfl, ge10_2, ge10_4⟩ := k54_openM hM10; have hx10_0 : w11.cell? ⟨go10, (x4_1 : Int).toNat * 5, none⟩ = some (.string ((rd_T54 x3_1 x4_1).f0)) := hcc10 0 _ rfl; have hx10_1 : w11.cell? ⟨go10, (x4_1 : Int).toNat * 5 + 1, none⟩ = some (.string ((rd_T54 x3_1 x4_1).f1)) := hcc10 1 _ rfl; have hx10_2 : w11.cell? ⟨go10, (x4_1 : Int).toNat * 5 + 2, none⟩ = some (ve10_2) := hcc10 2 _ rfl; have hx10_3 : w11.cell? ⟨go10, (x4_1 : Int).toNat * 5 + 3, none⟩ = some (.string ((rd_T54 x3_1 x4_1).f3)) := hcc10 3 _ rfl; have hx10_4 : w11.cell? ⟨go10, (x4_1 : Int).toNat * 5 + 4, none⟩ = some (ve10_4) := hcc10 4 _ rfl; have hf10_0 : w11.frozen? ⟨go10, (x4_1 : Int).toNat * 5, none⟩ = false := hfr10 0; have hf10_1 : w11.frozen? ⟨go10, (x4_1 : Int).toNat * 5 + 1, none⟩ = false := hfr10 1; have hf10_2 : w11.frozen? ⟨go10, (x4_1 : Int).toNat * 5 + 2, none⟩ = false := hfr10 2; have hf10_3 : w11.frozen? ⟨go10, (x4_1 : Int).toNat * 5 + 3, none⟩ = false := hfr10 3; have hf10_4 : w11.frozen? ⟨go10, (x4_1 : Int).toNat * 5 + 4, none⟩ = false := hfr10 4; clear hcl10 hcc10 hfr10; (try clear hM10); replace p10 := eq_true p10; replace q10 := eq_true q10; have n_ := Aside0.mk (Kd.S_mono (ok' := (fun k_ => some k_ ≠ (v322 : Value).ownBlock ∧ some k_ ≠ (v326 : Value).ownBlock)) HO_3.out (fun k_ hk => ⟨hk.1.2, hk.2⟩)); clear HO_3; have HO_3 := n_; clear n_; have HX12 := Aside0.mk (show Kd.S k54 54 w11 w.heap.size (fun k_ => ((fun _ => True)) k_ ∧ ¬ ((fun k_ => some k_ = (v322 : Value).ownBlock ∨ some k_ = (v326 : Value).ownBlock)) k_) (.slice (some ⟨go10, 0, none⟩) x3_1.length co10) x3_1 from (by (with_reducible repeat (first | apply Kd.S_alloc | apply Kd.S_drewN | apply Kd.S_drew)); exact Kd.S_mono HO_3.out (fun k_ hk => ⟨trivial, fun e_ => e_.elim (fun h_ => hk.1 h_) (fun h_ => hk.2 h_)⟩))); obtain ⟨oki12, ce12, hcl12, hM12, hcc12, hfr12, hoki12, hH12⟩ := Kd.S_elem HX12.out z54 (x4_1 : Int) (dA_) (by have h_ : (x4_1 : Int) < ((x3_1.length : Int) : Int) := dA_; first | exact h_ | (have e_ := (Kd.S_reads' HO_3.out).1; omega) | simpa using h_); obtain ⟨ve12_2, ve12_4, rfl, ge12_2, ge12_4⟩ := k54_openM hM12; have HP12 := Kd.S_seg hH12 (dA_) (by have h_ : (x4_1 : Int) < ((x3_1.length : Int) : Int) := dA_; first | exact h_ | (have e_ := (Kd.S_reads' HO_3.out).1; omega) | simpa using h_) (seg := [.string t319, .string t320, v322, .string t324, v326]) (j := 0) (show 5 ≤ 5 from by decide) (x' := (⟨t319, t320, t321, t324, t325⟩ : S54)) (k54_mkM _ _ _ (⟨t319, t320, t321, t324, t325⟩ : S54) (Kd.R_mono (Kd.R_tight rfl (Kd.R_mono (ok' := fun k_ => ((fun _ => True)) k_ ∧ k_ ≠ go10) (Kd.R_apart' (HO323.out) (Kd.S_typed HO_3.out) (by decide)) (fun k_ hk => ⟨trivial, fun e_ => (hk.2) (by rw [e_]; rfl)⟩))) (fun _ h_ => Or.inr (Or.inl h_))) (Kd.R_mono (Kd.R_tight rfl (Kd.R_mono (ok' := fun k_ => ((fun _ => True)) k_ ∧ k_ ≠ go10) (Kd.R_apart' (HO327.out) (Kd.S_typed HO_3.out) (by decide)) (fun k_ hk => ⟨trivial, fun e_ => (hk.2) (by rw [e_]; rfl)⟩))) (fun _ h_ => Or.inr (Or.inr (h_))))) (fun _ hk => hk) (fun k_ hk_ => hk_.elim (fun h_ => ((Kd.R_mono (ok' := fun k_ => ((fun _ => True)) k_ ∧ k_ ≠ go10) (Kd.R_apart' (HO323.out) (Kd.S_typed HO_3.out) (by decide)) (fun k_ hk => ⟨trivial, fun e_ => (hk.2) (by rw [e_]; rfl)⟩))).1 k_ h_.symm) (fun h_ => ((Kd.R_mono (ok' := fun k_ => ((fun _ => True)) k_ ∧ k_ ≠ go10) (Kd.R_apart' (HO327.out) (Kd.S_typed HO_3.out) (by decide)) (fun k_ hk => ⟨trivial, fun e_ => (hk.2) (by rw [e_]; rfl)⟩))).1 k_ h_.symm)); have hx12_0 := hcc12 0 _ rfl; (try simp only [show (k54).sz = 5 from rfl, Nat.mul_one, Nat.add_zero] at hx12_0); have hf12_0 := hfr12 0; (try simp only [show (k54).sz = 5 from rfl, Nat.mul_one, Nat.add_zero] at hf12_0); have hx12_1 := hcc12 1 _ rfl; (try simp only [show (k54).sz = 5 from rfl, Nat.mul_one, Nat.add_zero] at hx12_1); have hf12_1 := hfr12 1; (try simp only [show (k54).sz = 5 from rfl, Nat.mul_one, Nat.add_zero] at hf12_1); have hx12_2 := hcc12 2 _ rfl; (try simp only [show (k54).sz = 5 from rfl, Nat.mul_one, Nat.add_zero] at hx12_2); have hf12_2 := hfr12 2; (try simp only [show (k54).sz = 5 from rfl, Nat.mul_one, Nat.add_zero] at hf12_2); have hx12_3 := hcc12 3 _ rfl; (try simp only [show (k54).sz = 5 from rfl, Nat.mul_one, Nat.add_zero] at hx12_3); have hf12_3 := hfr12 3; (try simp only [show (k54).sz = 5 from rfl, Nat.mul_one, Nat.add_zero] at hf12_3); have hx12_4 := hcc12 4 _ rfl; (try simp only [show (k54).sz = 5 from rfl, Nat.mul_one, Nat.add_zero] at hx12_4); have hf12_4 := hfr12 4; (try simp only [show (k54).sz = 5 from rfl, Nat.mul_one, Nat.add_zero] at hf12_4); clear hcl12 hcc12 hfr12 hoki12 hH12; (try clear hM12)) | ((with_reducible refine gate_store (t := 54) (p := 21) rfl ?_); refine store_event (t := 54) (p := 21) (v := ?vo_w13) (w1 := (((((w11.setCell ⟨go10, (x4_1 : Int).toNat * 5, none⟩ (.string t319)).setCell ⟨go10, (x4_1 : Int).toNat * 5 + 1, none⟩ (.string t320)).setCell ⟨go10, (x4_1 : Int).toNat * 5 + 2, none⟩ (v322)).setCell ⟨go10, (x4_1 : Int).toNat * 5 + 3, none⟩ (.string t324)).setCell ⟨go10, (x4_1 : Int).toNat * 5 + 4, none⟩ (v326))) ?hg ?ho ?hn ?hr ?_; (case ho => rfl); (case hg => rfl); (case hn => rfl); (case hr => first | (go_simp; done) | (go_simp; rfl) | (obtain ⟨As_, cs_, es_⟩ := Kd.R_slice HO323.out; (cases es_); first | (go_simp; done) | (go_simp; rfl)) | (obtain ⟨As_, cs_, es_⟩ := Kd.R_slice HO327.out; (cases es_); first | (go_simp; done) | (go_simp; rfl)) | (obtain ⟨As0_, cs0_, es0_⟩ := Kd.R_slice HO323.out; (cases es0_); obtain ⟨As1_, cs1_, es1_⟩ := Kd.R_slice HO327.out; (cases es1_); first | (go_simp; done) | (go_simp; rfl))); intro w13 hw; have hg : w11.grownBy w13 (some go10) := (by rw [hw]; exact HP12.2); have hp_ : Kd.S k54 54 w13 w.heap.size (fun _ => True) (.slice (some ⟨go10, 0, none⟩) x3_1.length co10) y328 := (by rw [hw, Ny328.out]; exact HP12.1); clear HP12; have n0_ := Aside0.mk (hp_); have n1_ := Aside0.mk ((by rw [hw]; exact below_set (below_set (below_set (below_set (below_set (HB.out) GB10.out) GB10.out) GB10.out) GB10.out) GB10.out : Below w.heap.size w w13)); clear HO_3; clear HB; clear HO323; clear HO327; have HO_3 := n0_; have HB := n1_; clear n0_ n1_; clear hg hw hp_))
   go_roundg k1
   case measure => have := HK1.out; omega
   case rel => exact ⟨(y328), (wrap64 (x4_1 + 1)), (by first | rfl | (simp; done) | (simp [*]; done)), H', ⟨by have := HK1.out; omega⟩, ⟨by (with_reducible repeat (first | apply Kd.S_alloc | apply Kd.S_drewN | apply Kd.S_drew)); exact HO_3.out⟩, ⟨bw_ HB⟩⟩}
   {
   rw [if_neg c9] at H
   exact absurd H (by simp)}}
   {
   rw [if_neg c7] at H
   exact absurd H (by simp)}}
   {
   rw [if_neg c6] at H
   have c6b0 : decide (x4_1 < (l0.length : Int)) = false := decide_eq_false c6
   (try (have c6b0' := c6b0; simp only [hl318_4] at c6b0'))
   clear c6
   obtain rfl := Option.some.inj H
   go_wp2
   go_ret
   exact ⟨_, eR_, by (with_reducible repeat (first | apply Kd.S_alloc | apply Kd.S_drewN | apply Kd.S_drew)); exact HO_3.out, bw_ HB⟩}}
 {
 rw [if_neg c3] at H
 exact absurd H (by simp)}}
 {
 rw [if_neg c2] at H
 exact absurd H (by simp)
}
end Go.Proofs.YtkhhkpjeafknpaaGreatDoor.P
end

section
namespace Go.Proofs.YtkhhkpjeafknpaaGreatDoor.P
open Go.RowKit Go.Proofs.YtkhhkpjeafknpaaGreatDoorW.PrintWords Go.Proofs.YtkhhkpjeafknpaaGreatDoorW.PrintLast Go.Proofs.YtkhhkpjeafknpaaGreatDoorW.PrintMore Go.Proofs.YtkhhkpjeafknpaaGreatDoorM
attribute [local go_sem] max2_int min2_int max_two min_two max_three min_three max_four min_four
set_option linter.unusedVariables false
set_option linter.unusedSimpArgs false
def spec_TreeSum.f (k : Nat) (l0 : List (S70)) : Option (ByteArray) := (spec_TreeOk.f k l0).bind fun t205 => (if t205 = true then ((spec_PackTree.f k l0).bind fun t206 => ((spec_Sum.f k t206).bind fun t209 => ((spec_Word32.f k t209).bind fun t210 => (some t210)))) else (some (⟨#[]⟩ : ByteArray)))
set_option maxHeartbeats 8000000 in
set_option maxRecDepth 100000 in
theorem spec_TreeSum.calls (k : Nat) (A0 : Option Addr) (c0 : Nat) (l0 : List (S70)) (r : ByteArray) (w : World) (hr0 : Kd.C k70 w A0 l0.length l0) (hc0 : l0.length ≤ c0) (h : spec_TreeSum.f k l0 = some r) :
 Calls Tryz.prog 59 #[.slice A0 l0.length c0] w fun e w' => e = .returned (.string r) ∧ Below w.heap.size w w' := by
 have HR0 := Aside0.mk hr0
 have HC0 := Aside0.mk hc0
 clear hr0 hc0
 have HB := Aside0.mk (Below.refl w.heap.size w)
 have H : ((spec_TreeOk.f k l0).bind fun t205 => (if t205 = true then ((spec_PackTree.f k l0).bind fun t206 => ((spec_Sum.f k t206).bind fun t209 => ((spec_Word32.f k t209).bind fun t210 => (some t210)))) else (some (⟨#[]⟩ : ByteArray)))) = some r := h
 clear h
 replace H := Option.bind_eq_some_iff.mp H
 obtain ⟨t205, A20, H⟩ := H
 have A2 := Aside0.mk A20
 clear A20
 by_cases c3 : t205 = true
 {
 subst c3
 rw [if_pos rfl] at H
 replace H := Option.bind_eq_some_iff.mp H
 obtain ⟨t206, A40, H⟩ := H
 have A4 := Aside0.mk A40
 clear A40
 replace H := Option.bind_eq_some_iff.mp H
 obtain ⟨t209, A50, H⟩ := H
 have A5 := Aside0.mk A50
 clear A50
 replace H := Option.bind_eq_some_iff.mp H
 obtain ⟨t210, A60, H⟩ := H
 have A6 := Aside0.mk A60
 clear A60
 obtain rfl := Option.some.inj H
 go_enter Tryz.func59, Tryz.ntmps59
 go_wp2_with (first | ((with_reducible refine gate_callee (f := 44) rfl ?_); refine gL_ (some 4) Tryz.func44 #[.slice A0 l0.length c0] ?_; (with_reducible refine (spec_TreeOk.calls k _ _ l0 true _ ?side1 ?side2 A2.out).mono ?_); (case side1 => repeat (first | exact HR0.out | (with_reducible refine Kd.C_alloc ?_ _) | (with_reducible refine Kd.C_drewN ?_ _) | (with_reducible refine Kd.C_drew ?_))); (case side2 => exact HC0.out); rintro e w7 ⟨rfl, hb⟩; refine ⟨_, rfl, ?_⟩; have n0_ := Aside0.mk (below_step (bw_ HB) hb); clear HB; have HB := n0_; clear n0_; (try clear hb); (try clear hb2); (try clear hk); (try clear hi)) | ((with_reducible refine gate_callee (f := 83) rfl ?_); refine gL_ (some 7) Tryz.func83 #[.slice A0 l0.length c0] ?_; (with_reducible refine (spec_PackTree.calls k _ _ l0 t206 _ ?side1 ?side2 A4.out).mono ?_); (case side1 => exact cS_ HR0 HB); (case side2 => exact HC0.out); rintro e w8 ⟨v207, rfl, ho0, hb⟩; refine ⟨_, rfl, ?_⟩; have n0_ := Aside0.mk (Kd.R_lower ho0 (below_size (bw_ HB))); have n1_ := Aside0.mk (below_step (bw_ HB) hb); clear HB; have HO208 := n0_; have HB := n1_; clear n0_ n1_; (try clear hb); (try clear hb2); (try clear hk); (try clear hi); (try clear ho0); obtain ⟨Ao9, co9, eo9⟩ := Kd.R_slice HO208.out; subst eo9) | ((with_reducible refine gate_callee (f := 82) rfl ?_); refine gL_ (some 8) Tryz.func82 #[.slice Ao9 t206.length co9] ?_; (with_reducible refine (spec_Sum.calls k _ _ t206 t209 _ ?side1 ?side2 A5.out).mono ?_); (case side1 => repeat (first | exact (Kd.R_reads' HO208.out).2.2 | (with_reducible refine Kd.C_alloc ?_ _) | (with_reducible refine Kd.C_drewN ?_ _) | (with_reducible refine Kd.C_drew ?_))); (case side2 => exact (Kd.R_reads' HO208.out).2.1); rintro e w' ⟨rfl, ⟨nd, rfl⟩⟩; refine ⟨_, rfl, ?_⟩) | ((with_reducible refine gate_callee (f := 81) rfl ?_); refine gL_ (some 9) Tryz.func81 #[.int .u64 t209] ?_; (with_reducible refine (spec_Word32.calls k t209 t210 _ A6.out).mono ?_); rintro e w10 ⟨rfl, hb⟩; refine ⟨_, rfl, ?_⟩; have n0_ := Aside0.mk (Kd.R_below (by (with_reducible repeat (first | apply Kd.R_alloc | apply Kd.R_drewN | apply Kd.R_drew)); exact HO208.out) hb); have n1_ := Aside0.mk (below_step (bw_ HB) hb); clear HO208; clear HB; have HO208 := n0_; have HB := n1_; clear n0_ n1_; (try clear hb); (try clear hb2); (try clear hk); (try clear hi)))
 go_ret
 exact ⟨eR_, bw_ HB⟩}
 {
 replace c3 := Bool.eq_false_iff.mpr c3
 subst c3
 rw [if_neg (show ¬ (false = true) by decide)] at H
 obtain rfl := Option.some.inj H
 go_enter Tryz.func59, Tryz.ntmps59
 go_wp2_with (first | ((with_reducible refine gate_callee (f := 44) rfl ?_); refine gL_ (some 4) Tryz.func44 #[.slice A0 l0.length c0] ?_; (with_reducible refine (spec_TreeOk.calls k _ _ l0 false _ ?side1 ?side2 A2.out).mono ?_); (case side1 => repeat (first | exact HR0.out | (with_reducible refine Kd.C_alloc ?_ _) | (with_reducible refine Kd.C_drewN ?_ _) | (with_reducible refine Kd.C_drew ?_))); (case side2 => exact HC0.out); rintro e w11 ⟨rfl, hb⟩; refine ⟨_, rfl, ?_⟩; have n0_ := Aside0.mk (below_step (bw_ HB) hb); clear HB; have HB := n0_; clear n0_; (try clear hb); (try clear hb2); (try clear hk); (try clear hi)))
 go_ret
 exact ⟨eR_, bw_ HB⟩
}
def spec_l12SameTexts.l0 : Nat → List ByteArray → List ByteArray → Int → Option (Bool)
 | 0, _, _, _ => none
 | k + 1, x0, x1, x5 => if x5 < (x0.length : Int) then (if 0 ≤ x5 then (if x5 < (x1.length : Int) then (if (rdOf ByteArray.empty x0 x5).toList = (rdOf ByteArray.empty x1 x5).toList then (spec_l12SameTexts.l0 k x0 x1 (wrap64 (x5 + 1))) else (some false)) else (none)) else (none)) else (some true)
def spec_l12SameTexts.f (k : Nat) (l0 : List ByteArray) (l1 : List ByteArray) : Option (Bool) := if (l0.length : Int) = (l1.length : Int) then (spec_l12SameTexts.l0 k l0 l1 0) else (some false)
set_option maxHeartbeats 8000000 in
set_option maxRecDepth 100000 in
theorem spec_l12SameTexts.calls (k : Nat) (A0 : Option Addr) (c0 : Nat) (l0 : List ByteArray) (A1 : Option Addr) (c1 : Nat) (l1 : List ByteArray) (r : Bool) (w : World) (hr0 : Kd.C Kd.string w A0 l0.length l0) (hc0 : l0.length ≤ c0) (hr1 : Kd.C Kd.string w A1 l1.length l1) (hc1 : l1.length ≤ c1) (h : spec_l12SameTexts.f k l0 l1 = some r) :
 Calls Tryz.prog 60 #[.slice A0 l0.length c0, .slice A1 l1.length c1] w fun e w' => e = .returned (.bool r) ∧ Drawn0 w w' := by
 have HR0 := Aside0.mk hr0
 have HC0 := Aside0.mk hc0
 clear hr0 hc0
 have HR1 := Aside0.mk hr1
 have HC1 := Aside0.mk hc1
 clear hr1 hc1
 have H : (if (l0.length : Int) = (l1.length : Int) then (spec_l12SameTexts.l0 k l0 l1 0) else (some false)) = some r := h
 clear h
 by_cases c3 : (l0.length : Int) = (l1.length : Int)
 {
 rw [if_pos c3] at H
 have c3b0 : ((l0.length : Int) == (l1.length : Int)) = true := beq_iff_eq.mpr c3
 have c3b1 : ((l0.length : Int) != (l1.length : Int)) = false := bne_eq_false_iff_eq.mpr c3
 have c3b2 : (l0.length == l1.length) = true := by first | simpa using c3 | (simp at c3 ⊢; omega)
 clear c3
 have H' := Aside0.mk H
 clear H
 go_enter Tryz.func60, Tryz.ntmps60
 go_wp2
 repeat (go_quiet (fail); try go_wp2)
 go_loopg [5] k (fun kq v5 w' => ∃ (x5_1 : Int), v5 = .int .i64 x5_1 ∧ Aside0 (spec_l12SameTexts.l0 kq l0 l1 x5_1 = some r) ∧ Aside0 (kq ≤ k) ∧ Drawn0 w w')
 case atStart => exact ⟨(0), (by first | rfl | (simp; done) | (simp [*]; done)), H', ⟨Nat.le_refl _⟩, dR_⟩
 case round =>
  clear H'
  try clear c1
  try clear p2
  try clear c3
  try clear c3b0
  try clear c3b1
  try clear c3b2
  obtain ⟨x5_1, rfl, HA, HK1, ⟨m1, rfl⟩⟩ := hrel
  cases gk with
  | zero => exact absurd HA.out (by simp [spec_l12SameTexts.l0])
  | succ k1 =>
   have H := HA.out
   clear HA
   simp only [spec_l12SameTexts.l0] at H
   by_cases c4 : x5_1 < (l0.length : Int)
   {
   rw [if_pos c4] at H
   have c4b0 : decide (x5_1 < (l0.length : Int)) = true := decide_eq_true c4
   clear c4
   by_cases c5 : 0 ≤ x5_1
   {
   rw [if_pos c5] at H
   have c5b0 : decide (0 ≤ x5_1) = true := decide_eq_true c5
   clear c5
   by_cases c6 : x5_1 < (l1.length : Int)
   {
   rw [if_pos c6] at H
   have c6b0 : decide (x5_1 < (l1.length : Int)) = true := decide_eq_true c6
   clear c6
   by_cases c7 : (rdOf ByteArray.empty l0 x5_1).toList = (rdOf ByteArray.empty l1 x5_1).toList
   {
   rw [if_pos c7] at H
   have c7b0 : ((rdOf ByteArray.empty l0 x5_1).toList == (rdOf ByteArray.empty l1 x5_1).toList) = true := beq_iff_eq.mpr c7
   have c7b1 : ((rdOf ByteArray.empty l0 x5_1).toList != (rdOf ByteArray.empty l1 x5_1).toList) = false := bne_eq_false_iff_eq.mpr c7
   clear c7
   have H' := Aside0.mk H
   clear H
   have p211 : 0 ≤ (x5_1 : Int) := dA_
   have q211 : x5_1 < (l0.length : Int) := dA_
   obtain ⟨ad211, e211, hx211_0⟩ := Kd.at_string HR0.out x5_1 p211 q211
   cases e211
   replace p211 := eq_true p211
   replace q211 := eq_true q211
   have p212 : 0 ≤ (x5_1 : Int) := dA_
   have q212 : x5_1 < (l1.length : Int) := dA_
   obtain ⟨ad212, e212, hx212_0⟩ := Kd.at_string HR1.out x5_1 p212 q212
   cases e212
   replace p212 := eq_true p212
   replace q212 := eq_true q212
   go_wp2
   repeat (go_quiet (fail); try go_wp2)
   go_roundg k1
   case measure => have := HK1.out; omega
   case rel => exact ⟨(wrap64 (x5_1 + 1)), (by first | rfl | (simp; done) | (simp [*]; done)), H', ⟨by have := HK1.out; omega⟩, dR_⟩}
   {
   rw [if_neg c7] at H
   have c7b0 : ((rdOf ByteArray.empty l0 x5_1).toList == (rdOf ByteArray.empty l1 x5_1).toList) = false := beq_eq_false_iff_ne.mpr c7
   have c7b1 : ((rdOf ByteArray.empty l0 x5_1).toList != (rdOf ByteArray.empty l1 x5_1).toList) = true := bne_iff_ne.mpr c7
   obtain rfl := Option.some.inj H
   have p211 : 0 ≤ (x5_1 : Int) := dA_
   have q211 : x5_1 < (l0.length : Int) := dA_
   obtain ⟨ad211, e211, hx211_0⟩ := Kd.at_string HR0.out x5_1 p211 q211
   cases e211
   replace p211 := eq_true p211
   replace q211 := eq_true q211
   have p212 : 0 ≤ (x5_1 : Int) := dA_
   have q212 : x5_1 < (l1.length : Int) := dA_
   obtain ⟨ad212, e212, hx212_0⟩ := Kd.at_string HR1.out x5_1 p212 q212
   cases e212
   replace p212 := eq_true p212
   replace q212 := eq_true q212
   go_wp2
   repeat (go_quiet (fail); try go_wp2)
   go_ret
   exact ⟨eS_, dR_⟩}}
   {
   rw [if_neg c6] at H
   exact absurd H (by simp)}}
   {
   rw [if_neg c5] at H
   exact absurd H (by simp)}}
   {
   rw [if_neg c4] at H
   have c4b0 : decide (x5_1 < (l0.length : Int)) = false := decide_eq_false c4
   clear c4
   obtain rfl := Option.some.inj H
   go_wp2
   repeat (go_quiet (fail); try go_wp2)
   go_ret
   exact ⟨eS_, dR_⟩}}
 {
 rw [if_neg c3] at H
 have c3b0 : ((l0.length : Int) == (l1.length : Int)) = false := beq_eq_false_iff_ne.mpr c3
 have c3b1 : ((l0.length : Int) != (l1.length : Int)) = true := bne_iff_ne.mpr c3
 have c3b2 : (l0.length == l1.length) = false := by first | simpa using c3 | (simp at c3 ⊢; omega)
 obtain rfl := Option.some.inj H
 go_enter Tryz.func60, Tryz.ntmps60
 go_wp2
 repeat (go_quiet (fail); try go_wp2)
 go_ret
 exact ⟨eS_, dR_⟩
}
end Go.Proofs.YtkhhkpjeafknpaaGreatDoor.P
end
