/- Texts of Trb, put together by program. -/
import Derived.Test.YtjnmcgeahomkeaaDoorMTrb2
import Derived.Test.YtjnmcgeahomkeaaDoorMTrb3

section
namespace Go.Proofs.YtjnmcgeahomkeaaDoor.P
open Go.RowKit Go.Proofs.YtjnmcgeahomkeaaDoorW.PrintWords Go.Proofs.YtjnmcgeahomkeaaDoorW.PrintLast Go.Proofs.YtjnmcgeahomkeaaDoorW.PrintMore Go.Proofs.YtjnmcgeahomkeaaDoorM
attribute [local go_sem] max2_int min2_int max_two min_two max_three min_three max_four min_four
set_option linter.unusedVariables false
set_option linter.unusedSimpArgs false
set_option maxHeartbeats 8000000
set_option maxRecDepth 100000
mutual
def impl_TreeOk.l0 : Nat → List (S29) → List (ByteArray × Int) → List (S29) → Int → Int → Option (Bool)
 | 0, _, _, _, _, _ => none
 | k + 1, x0, x3, x14, x15, x16 => if x16 < x15 then (if 0 ≤ x16 then (if x16 < (x14.length : Int) then ((impl_pathOk.f k ((rd_T29 x14 x16).f0)).bind fun t115 => (if t115 = true then (if x16 > 0 then (if 0 ≤ (wrap64 (x16 - 1)) then (if (wrap64 (x16 - 1)) < (x0.length : Int) then (if ((Op.bytesLess (((rd_T29 x0 (wrap64 (x16 - 1))).f0).toList) (((rd_T29 x14 x16).f0).toList)) = true) then (if (rd_T29 x14 x16).f3 = true then (impl_TreeOk.j1 k x0 x3 x14 x15 x16 (((rd_T29 x14 x16).f1) != 2) ((rd_T29 x14 x16).f0) ((rd_T29 x14 x16).f1) ((rd_T29 x14 x16).f2) ((rd_T29 x14 x16).f3)) else (impl_TreeOk.j1 k x0 x3 x14 x15 x16 false ((rd_T29 x14 x16).f0) ((rd_T29 x14 x16).f1) ((rd_T29 x14 x16).f2) ((rd_T29 x14 x16).f3))) else (impl_TreeOk.j1 k x0 x3 x14 x15 x16 true ((rd_T29 x14 x16).f0) ((rd_T29 x14 x16).f1) ((rd_T29 x14 x16).f2) ((rd_T29 x14 x16).f3))) else (none)) else (none)) else (if (rd_T29 x14 x16).f3 = true then (impl_TreeOk.j1 k x0 x3 x14 x15 x16 (((rd_T29 x14 x16).f1) != 2) ((rd_T29 x14 x16).f0) ((rd_T29 x14 x16).f1) ((rd_T29 x14 x16).f2) ((rd_T29 x14 x16).f3)) else (impl_TreeOk.j1 k x0 x3 x14 x15 x16 false ((rd_T29 x14 x16).f0) ((rd_T29 x14 x16).f1) ((rd_T29 x14 x16).f2) ((rd_T29 x14 x16).f3)))) else (impl_TreeOk.j1 k x0 x3 x14 x15 x16 true ((rd_T29 x14 x16).f0) ((rd_T29 x14 x16).f1) ((rd_T29 x14 x16).f2) ((rd_T29 x14 x16).f3)))) else (none)) else (none)) else (impl_TreeOk.l1 k x3 x0 (x0.length : Int) 0)
def impl_TreeOk.j1 : Nat → List (S29) → List (ByteArray × Int) → List (S29) → Int → Int → Bool → ByteArray → Int → ByteArray → Bool → Option (Bool)
 | 0, _, _, _, _, _, _, _, _, _, _ => none
 | k + 1, x0, x3, x14, x15, x16, x48, x115000, x115001, x115002, x115003 => if x48 = true then (some false) else (if x115001 = 1 then (if x115002.toList = ([] : List UInt8) then (if x3.length < 1099511627776 then (if x115000.size ≤ 9223372036854775807 then (impl_TreeOk.l0 k x0 (x3 ++ [(x115000, 1)]) x14 x15 (wrap64 (x16 + 1))) else (none)) else (none)) else (some false)) else (if x115001 = 2 then (if (x115002.size : Int) > 20000 then (some false) else (impl_TreeOk.l0 k x0 x3 x14 x15 (wrap64 (x16 + 1)))) else (if x115001 = 3 then (if (x115002.size : Int) < 1 then (some false) else (if (x115002.size : Int) > 20000 then (some false) else (impl_TreeOk.l0 k x0 x3 x14 x15 (wrap64 (x16 + 1))))) else (some false))))
def impl_TreeOk.l1 : Nat → List (ByteArray × Int) → List (S29) → Int → Int → Option (Bool)
 | 0, _, _, _, _ => none
 | k + 1, x3, x78, x79, x80 => if x80 < x79 then (if 0 ≤ x80 then (if x80 < (x78.length : Int) then ((impl_upper.f ((rd_T29 x78 x80).f0)).bind fun bt120 => (if bt120.2 = true then (if bt120.1.size ≤ 9223372036854775807 then (if (mgetD 0 x3 bt120.1) = 0 then (some false) else (impl_TreeOk.l1 k x3 x78 x79 (wrap64 (x80 + 1)))) else (none)) else (impl_TreeOk.l1 k x3 x78 x79 (wrap64 (x80 + 1))))) else (none)) else (none)) else (some true)
end
def impl_TreeOk.f (k : Nat) (l0 : List (S29)) : Option (Bool) := if (l0.length : Int) > 500 then (some false) else (impl_TreeOk.l0 k l0 (([] : List (ByteArray × Int))) l0 (l0.length : Int) 0)
def impl_TreeOk.T7 : Bool × List (List Nat × List Nat) := (true, [([], []), ([0], [0]), ([1], [1]), ([2], [2]), ([3, 2], [3]), ([4], [4]), ([5, 4], [4, 5]), ([6, 4, 4], [4, 6]), ([7], [7]), ([8, 7], [7, 8]), ([7], [7]), ([7], [7]), ([11, 7], [7, 11]), ([10, 12, 7], [7, 10, 12]), ([13, 7], [7, 13]), ([14, 7], [7, 14]), ([9, 15, 7], [7, 9, 15]), ([7, 16, 4], [4, 7, 16]), ([4, 17], [4, 17]), ([18, 7], [18]), ([19], [19]), ([20, 19], [19, 20]), ([21, 19, 19], [19, 21]), ([22], [22]), ([23, 22], [22, 23]), ([24, 22], [22, 24]), ([22, 25, 19], [19, 22, 25]), ([19, 26], [19, 26])])
def impl_TreeOk.B7 : List Nat := [0, 1, 3, 7, 15, 31, 63, 127, 255, 511, 255, 255, 2303, 7423, 15615, 31999, 65535, 131071, 262143, 524287, 1048575, 2097151, 4194303, 8388607, 16777215, 33554431, 67108863, 134217727]
theorem impl_TreeOk.tab7 : rtab .any (opsOf Tryd.f22 7) = impl_TreeOk.T7 := by kernel_rfl
theorem impl_TreeOk.bits7 : waitsOk impl_TreeOk.T7.2 impl_TreeOk.B7 = true := by kernel_rfl
theorem impl_TreeOk.calls (k : Nat) (A0 : Option Addr) (c0 : Nat) (l0 : List (S29)) (r : Bool) (w : World) (hE : EnvW w) (hr0 : Kd.C k29 w A0 l0.length l0) (hc0 : l0.length ≤ c0) (h : impl_TreeOk.f k l0 = some r) :
 Calls Tryd.prog 22 #[.slice A0 l0.length c0] w fun e w' => e = .returned (.bool r) ∧ Below w.heap.size w w' := by
 have hu29 := Tryd.underlying29
 have HE := Aside0.mk hE
 clear hE
 have HR0 := Aside0.mk hr0
 have HC0 := Aside0.mk hc0
 clear hr0 hc0
 have HB := Aside0.mk (Below.refl w.heap.size w)
 have H : (if (l0.length : Int) > 500 then (some false) else (impl_TreeOk.l0 k l0 (([] : List (ByteArray × Int))) l0 (l0.length : Int) 0)) = some r := h
 clear h
 by_cases c2 : (l0.length : Int) > 500
 {
 rw [if_pos c2] at H
 have c2b0 : decide (500 < (l0.length : Int)) = true := decide_eq_true c2
 have c2b1 : decide (500 < l0.length) = true := decide_eq_true (by omega)
 clear c2
 obtain rfl := Option.some.inj H
 go_enter Tryd.func22, Tryd.ntmps22
 go_wp2
 go_ret
 exact ⟨eR_, bw_ HB⟩}
 {
 rw [if_neg c2] at H
 have c2b0 : decide (500 < (l0.length : Int)) = false := decide_eq_false c2
 have c2b1 : decide (500 < l0.length) = false := decide_eq_false (by omega)
 clear c2
 obtain ⟨y110, hy110⟩ : ∃ y_ : List (ByteArray × Int), y_ = (([] : List (ByteArray × Int))) := ⟨_, rfl⟩
 replace H : (impl_TreeOk.l0 k l0 y110 l0 (l0.length : Int) 0) = some r := rH_ hy110 H
 have Ny110 := Aside0.mk hy110
 clear hy110
 have H' := Aside0.mk H
 clear H
 go_enter Tryd.func22, Tryd.ntmps22
 go_wp2_with (first | ((with_reducible refine gate_dst (N := 13) rfl ?_); (try (refine gate_guard (by rfl) ?_; dsimp only)); refine map_new (kkStr Tryd.prog 9 Tryd.underlying9) ekI64 rfl (N := 13) rfl 67 rfl ?_; intro gm112 gg4 w3 hmp hb; rw [← Ny110.out] at hmp; have HM111 := Aside0.mk (hmp); have GMgm112 := Aside0.mk ((ge_ gg4 (bw_ HB))); replace HB := Aside0.mk (below_step (bw_ HB) hb); clear hb hmp gg4))
 go_loopg [16] k (fun kq v16 w' => ∃ (x3_1 : List (ByteArray × Int)) (x16_1 : Int), v16 = .int .i64 x16_1 ∧ Aside0 (impl_TreeOk.l0 kq l0 x3_1 l0 (l0.length : Int) x16_1 = some r) ∧ Aside0 (kq ≤ k) ∧ Aside0 (MapAt (kkStr Tryd.prog 9 Tryd.underlying9) ekI64 w' gm112 x3_1) ∧ Aside0 (Below w.heap.size w w'))
 case atStart => exact ⟨(y110), (0), (by first | rfl | (simp; done) | (simp [*]; done)), H', ⟨Nat.le_refl _⟩, ⟨mp_ HM111⟩, ⟨bw_ HB⟩⟩
 case round =>
  clear H'
  try clear c2
  try clear c2b0
  try clear c2b1
  try clear p2
  obtain ⟨x3_1, x16_1, rfl, HA, HK1, HM_3, HB⟩ := hrel
  cases gk with
  | zero => exact absurd HA.out (by simp [impl_TreeOk.l0])
  | succ k1 =>
   have H := HA.out
   clear HA
   simp only [impl_TreeOk.l0] at H
   by_cases c5 : x16_1 < (l0.length : Int)
   {
   rw [if_pos c5] at H
   have c5b0 := decide_eq_true c5
   clear c5
   by_cases c6 : 0 ≤ x16_1
   {
   rw [if_pos c6] at H
   have c6b0 := decide_eq_true c6
   clear c6
   by_cases c7 : x16_1 < (l0.length : Int)
   {
   rw [if_pos c7] at H
   have c7b0 := decide_eq_true c7
   clear c7
   have HC8 := Aside0.mk H
   clear H
   have p113 : 0 ≤ (x16_1 : Int) := dA_
   have q113 : x16_1 < (l0.length : Int) := dA_
   obtain ⟨ad113, e113, hx113_0, hx113_1, hx113_2, hx113_3⟩ := at_T29 HR0.out x16_1 p113 q113
   cases e113
   replace hx113_0 := hX_ HB hx113_0
   replace hx113_1 := hX_ HB hx113_1
   replace hx113_2 := hX_ HB hx113_2
   replace hx113_3 := hX_ HB hx113_3
   replace p113 := eq_true p113
   replace q113 := eq_true q113
   go_upto_region 7 with (first | ((with_reducible refine gate_dst (N := 5) rfl ?_); (try (refine gate_guard (by rfl) ?_; dsimp only)); refine bE_ 5 #[.string (⟨#[]⟩ : ByteArray), .int .i64 0, .string (⟨#[]⟩ : ByteArray), .bool false] 29 ?_; intro gb114 hg w9 hbox hb; replace HM_3 := Aside0.mk (MapAt.below (mp_ HM_3) hb); have BK114 := Aside0.mk (hbox); have GW114 := Aside0.mk ((ge_ hg (bw_ HB))); have GE114 := Aside0.mk ((ge_ hg (bw_ HB))); replace HB := Aside0.mk (below_step (bw_ HB) hb); clear hb hbox hg; obtain ⟨hcz10_0, hcz10_1, hcz10_2, hcz10_3, hfz10_0, hfz10_1, hfz10_2, hfz10_3⟩ := zc4_ BK114))
   (try simp only [Act.put, List.setIfInBounds_toArray, List.set_cons_zero, List.set_cons_succ])
   go_cut [48] (fun v48 wc => ∃ (kq : Nat) (x48_7 : Bool), v48 = .bool x48_7 ∧ Aside0 (impl_TreeOk.j1 kq l0 x3_1 l0 (l0.length : Int) x16_1 x48_7 ((rd_T29 l0 x16_1).f0) ((rd_T29 l0 x16_1).f1) ((rd_T29 l0 x16_1).f2) ((rd_T29 l0 x16_1).f3) = some r) ∧ Aside0 (kq ≤ k1) ∧ Aside0 (MapAt (kkStr Tryd.prog 9 Tryd.underlying9) ekI64 wc gm112 x3_1) ∧ Aside0 (wc.heap[gb114]? = some (.cells #[.string ((rd_T29 l0 x16_1).f0), .int .i64 ((rd_T29 l0 x16_1).f1), .string ((rd_T29 l0 x16_1).f2), .bool ((rd_T29 l0 x16_1).f3)] 29 (0, 0))) ∧ Aside0 (Below w.heap.size w wc))
   case first =>
    have H := HC8.out
    clear HC8
    replace H := Option.bind_eq_some_iff.mp H
    obtain ⟨t115, A110, H⟩ := H
    have A11 := Aside0.mk A110
    clear A110
    by_cases c12 : t115 = true
    {
    subst c12
    rw [if_pos rfl] at H
    by_cases c13 : x16_1 > 0
    {
    rw [if_pos c13] at H
    have c13b0 : decide (0 < x16_1) = true := decide_eq_true c13
    clear c13
    (first | rw [c13b0] | (simp only [i64_w, i32_w]; rw [c13b0]) | skip)
    obtain ⟨ji14, hji14⟩ : ∃ j_ : Int, (wrap64 (x16_1 - 1)) = j_ := ⟨_, rfl⟩
    replace H : (if 0 ≤ (ji14) then (if (ji14) < (l0.length : Int) then (if ((Op.bytesLess (((rd_T29 l0 (ji14)).f0).toList) (((rd_T29 l0 x16_1).f0).toList)) = true) then (if (rd_T29 l0 x16_1).f3 = true then (impl_TreeOk.j1 k1 l0 x3_1 l0 (l0.length : Int) x16_1 (((rd_T29 l0 x16_1).f1) != 2) ((rd_T29 l0 x16_1).f0) ((rd_T29 l0 x16_1).f1) ((rd_T29 l0 x16_1).f2) ((rd_T29 l0 x16_1).f3)) else (impl_TreeOk.j1 k1 l0 x3_1 l0 (l0.length : Int) x16_1 false ((rd_T29 l0 x16_1).f0) ((rd_T29 l0 x16_1).f1) ((rd_T29 l0 x16_1).f2) ((rd_T29 l0 x16_1).f3))) else (impl_TreeOk.j1 k1 l0 x3_1 l0 (l0.length : Int) x16_1 true ((rd_T29 l0 x16_1).f0) ((rd_T29 l0 x16_1).f1) ((rd_T29 l0 x16_1).f2) ((rd_T29 l0 x16_1).f3))) else (none)) else (none)) = some r := by first | (rw [hji14] at H; exact H) | (simp only [hji14] at H ⊢; exact H)
    (try rw [hji14] at A11)
    have hji14w : (IntKind.i64.wrap (x16_1 - 1)) = ji14 := (i64_w _).trans hji14
    by_cases c15 : 0 ≤ (ji14)
    {
    rw [if_pos c15] at H
    have c15b0 := decide_eq_true c15
    clear c15
    by_cases c16 : (ji14) < (l0.length : Int)
    {
    rw [if_pos c16] at H
    have c16b0 := decide_eq_true c16
    clear c16
    by_cases c17 : ((Op.bytesLess (((rd_T29 l0 (ji14)).f0).toList) (((rd_T29 l0 x16_1).f0).toList)) = true)
    {
    rw [if_pos c17] at H
    have c17b0 : (Op.bytesLess (((rd_T29 l0 (ji14)).f0).toList) (((rd_T29 l0 x16_1).f0).toList)) = true := c17
    clear c17
    obtain ⟨bq18, hbq18⟩ : ∃ b_ : Bool, b_ = ((rd_T29 l0 x16_1).f3) := ⟨_, rfl⟩
    replace H : (if bq18 = true then (impl_TreeOk.j1 k1 l0 x3_1 l0 (l0.length : Int) x16_1 (((rd_T29 l0 x16_1).f1) != 2) ((rd_T29 l0 x16_1).f0) ((rd_T29 l0 x16_1).f1) ((rd_T29 l0 x16_1).f2) bq18) else (impl_TreeOk.j1 k1 l0 x3_1 l0 (l0.length : Int) x16_1 false ((rd_T29 l0 x16_1).f0) ((rd_T29 l0 x16_1).f1) ((rd_T29 l0 x16_1).f2) bq18)) = some r := by rw [← hbq18] at H; exact H
    have Nbq18 := Aside0.mk hbq18
    clear hbq18
    by_cases c19 : bq18 = true
    {
    subst c19
    rw [if_pos rfl] at H
    have H' := Aside0.mk H
    clear H
    try go_wp2
    have n0_ : Aside0 (((((w9.setCell ⟨gb114, 0, none⟩ (.string ((rd_T29 l0 x16_1).f0))).setCell ⟨gb114, 1, none⟩ (.int .i64 ((rd_T29 l0 x16_1).f1))).setCell ⟨gb114, 2, none⟩ (.string ((rd_T29 l0 x16_1).f2))).setCell ⟨gb114, 3, none⟩ (.bool (true))).heap[gb114]? = some (.cells #[.string ((rd_T29 l0 x16_1).f0), .int .i64 ((rd_T29 l0 x16_1).f1), .string ((rd_T29 l0 x16_1).f2), .bool true] 29 (0, 0))) := ⟨by (with_reducible repeat (first | refine blk_drewN ?_ _ | refine blk_drew ?_ | refine blk_alloc ?_ _)); refine blk_put (cs := #[.string ((rd_T29 l0 x16_1).f0), .int .i64 ((rd_T29 l0 x16_1).f1), .string ((rd_T29 l0 x16_1).f2), .bool false]) ?_ 3 _ rfl; (with_reducible repeat (first | refine blk_drewN ?_ _ | refine blk_drew ?_ | refine blk_alloc ?_ _)); refine blk_put (cs := #[.string ((rd_T29 l0 x16_1).f0), .int .i64 ((rd_T29 l0 x16_1).f1), .string (⟨#[]⟩ : ByteArray), .bool false]) ?_ 2 _ rfl; (with_reducible repeat (first | refine blk_drewN ?_ _ | refine blk_drew ?_ | refine blk_alloc ?_ _)); refine blk_put (cs := #[.string ((rd_T29 l0 x16_1).f0), .int .i64 0, .string (⟨#[]⟩ : ByteArray), .bool false]) ?_ 1 _ rfl; (with_reducible repeat (first | refine blk_drewN ?_ _ | refine blk_drew ?_ | refine blk_alloc ?_ _)); refine blk_put (cs := #[.string (⟨#[]⟩ : ByteArray), .int .i64 0, .string (⟨#[]⟩ : ByteArray), .bool false]) ?_ 0 _ rfl; exact bk_ BK114⟩
    have n1_ : Aside0 (MapAt (kkStr Tryd.prog 9 Tryd.underlying9) ekI64 ((((w9.setCell ⟨gb114, 0, none⟩ (.string ((rd_T29 l0 x16_1).f0))).setCell ⟨gb114, 1, none⟩ (.int .i64 ((rd_T29 l0 x16_1).f1))).setCell ⟨gb114, 2, none⟩ (.string ((rd_T29 l0 x16_1).f2))).setCell ⟨gb114, 3, none⟩ (.bool (true))) gm112 x3_1) := ⟨mp_ HM_3⟩
    have n2_ : Aside0 (Below w.heap.size w ((((w9.setCell ⟨gb114, 0, none⟩ (.string ((rd_T29 l0 x16_1).f0))).setCell ⟨gb114, 1, none⟩ (.int .i64 ((rd_T29 l0 x16_1).f1))).setCell ⟨gb114, 2, none⟩ (.string ((rd_T29 l0 x16_1).f2))).setCell ⟨gb114, 3, none⟩ (.bool (true)))) := ⟨bw1_ HB GE114⟩
    (try rw [← Nbq18.out])
    (try clear BK114)
    (try clear HM_3)
    (try clear HB)
    generalize ((((w9.setCell ⟨gb114, 0, none⟩ (.string ((rd_T29 l0 x16_1).f0))).setCell ⟨gb114, 1, none⟩ (.int .i64 ((rd_T29 l0 x16_1).f1))).setCell ⟨gb114, 2, none⟩ (.string ((rd_T29 l0 x16_1).f2))).setCell ⟨gb114, 3, none⟩ (.bool (true))) = w20 at n0_ n1_ n2_ ⊢
    have BK114 := n0_
    have HM_3 := n1_
    have HB := n2_
    clear n0_ n1_ n2_
    replace BK114 := Aside0.mk (blk_drew BK114.out)
    replace HM_3 := Aside0.mk (MapAt.drew HM_3.out)
    replace HB := Aside0.mk (below_drew1 HB.out)
    have p116 : 0 ≤ ((ji14) : Int) := dA_
    have q116 : (ji14) < (l0.length : Int) := dA_
    obtain ⟨ad116, e116, hx116_0, hx116_1, hx116_2, hx116_3⟩ := at_T29 HR0.out (ji14) p116 q116
    have hw116_3 := hx116_3
    (try rw [← Nbq18.out] at hw116_3)
    have hw116_2 := hx116_2
    (try rw [← Nbq18.out] at hw116_2)
    have hw116_1 := hx116_1
    (try rw [← Nbq18.out] at hw116_1)
    have hw116_0 := hx116_0
    (try rw [← Nbq18.out] at hw116_0)
    (try rw [← Nbq18.out] at hx116_3)
    obtain rfl : ad113 = ad116 := (by injection e116)
    replace hx116_0 := hX_ HB hx116_0
    replace hx116_1 := hX_ HB hx116_1
    replace hx116_2 := hX_ HB hx116_2
    replace hx116_3 := hX_ HB hx116_3
    replace p116 := eq_true p116
    replace q116 := eq_true q116
    refine start_ (n := 28) (S := fun w' => w'.cell? ⟨gb114, 0, none⟩ = some (.string ((rd_T29 l0 x16_1).f0)) ∧ w'.cell? ⟨gb114, 1, none⟩ = some (.int .i64 ((rd_T29 l0 x16_1).f1)) ∧ w'.cell? ⟨gb114, 2, none⟩ = some (.string ((rd_T29 l0 x16_1).f2)) ∧ w'.cell? ⟨gb114, 3, none⟩ = some (.bool true) ∧ w'.cell? (ad113.add (((ji14)).toNat * 4)) = some (.string ((rd_T29 l0 (ji14)).f0)) ∧ w'.cell? ⟨(ad113.add (((ji14)).toNat * 4)).block, (ad113.add (((ji14)).toNat * 4)).off + 1, none⟩ = some (.int .i64 ((rd_T29 l0 (ji14)).f1)) ∧ w'.cell? ⟨(ad113.add (((ji14)).toNat * 4)).block, (ad113.add (((ji14)).toNat * 4)).off + 2, none⟩ = some (.string ((rd_T29 l0 (ji14)).f2)) ∧ w'.cell? ⟨(ad113.add (((ji14)).toNat * 4)).block, (ad113.add (((ji14)).toNat * 4)).off + 3, none⟩ = some (.bool ((rd_T29 l0 (ji14)).f3))) (ds := []) (bs_ 28 0) (by kernel_rfl) rfl (by kernel_rfl) ⟨(blk_cell BK114.out 0).trans rfl, (blk_cell BK114.out 1).trans rfl, (blk_cell BK114.out 2).trans rfl, (blk_cell BK114.out 3).trans rfl, ((HB.out.cell (World.block_lt_of_cell? w _ hw116_0)).trans hw116_0), ((HB.out.cell (World.block_lt_of_cell? w _ hw116_1)).trans hw116_1), ((HB.out.cell (World.block_lt_of_cell? w _ hw116_2)).trans hw116_2), ((HB.out.cell (World.block_lt_of_cell? w _ hw116_3)).trans hw116_3)⟩ (fun hHeld => ?_); refine with_tabW impl_TreeOk.tab7 impl_TreeOk.bits7 (fun HT_ HW_ => ?_)
    generalize w20.drew = w21 at BK114 HM_3 HB hx116_0 hx116_1 hx116_2 hx116_3 hHeld ⊢
    refine pS_ 0 ?_
    refine t8_ 1 hHeld ?_
    refine oS_ 2 (fun K hK => ?_)
    refine gS_ Tryd.func45 #[.string ((rd_T29 l0 x16_1).f0)] ?_
    with_reducible refine (impl_pathOk.calls k1 ((rd_T29 l0 x16_1).f0) true _ ?side1 A11.out).mono ?_
    (case side1 => refine EnvW.below HE.out ?_; exact bw1_ HB GE114)
    rintro e w22 ⟨rfl, hb⟩
    refine ⟨_, rfl, ?_⟩
    replace HM_3 := Aside0.mk (MapAt.below (mp_ HM_3) hb)
    replace BK114 := Aside0.mk (blk_below (bk_ BK114) hb)
    replace HB := Aside0.mk (below_step (bw1_ HB GE114) hb)
    (try clear hb)
    (try clear hb2)
    (try clear hk)
    (try clear hi)
    refine hK.out _ _ ⟨(blk_cell BK114.out 0).trans rfl, (blk_cell BK114.out 1).trans rfl, (blk_cell BK114.out 2).trans rfl, (blk_cell BK114.out 3).trans rfl, ((HB.out.cell (World.block_lt_of_cell? w _ hw116_0)).trans hw116_0), ((HB.out.cell (World.block_lt_of_cell? w _ hw116_1)).trans hw116_1), ((HB.out.cell (World.block_lt_of_cell? w _ hw116_2)).trans hw116_2), ((HB.out.cell (World.block_lt_of_cell? w _ hw116_3)).trans hw116_3)⟩ (fun hHeld => ?_)
    clear hK K
    refine nS_ 23 ?_
    refine pS_ 3 ?_
    refine pS_ 4 ?_
    refine pS_ 5 ?_
    refine pS_ 6 ?_
    refine pS_ 7 ?_
    refine pS_ 8 ?_
    refine pS_ 10 ?_
    refine pS_ 11 ?_
    refine pS_ 12 ?_
    refine pS_ 13 ?_
    refine pS_ 14 ?_
    refine t8_ 9 hHeld ?_
    refine t8_ 15 hHeld ?_
    refine pS_ 16 ?_
    refine pS_ 17 ?_
    refine pS_ 18 ?_
    refine pS_ 19 ?_
    refine pS_ 20 ?_
    refine t8_ 21 hHeld ?_
    refine pS_ 22 ?_
    refine pS_ 23 ?_
    refine t8_ 24 hHeld ?_
    refine pS_ 25 ?_
    refine pS_ 26 ?_
    refine pS_ 27 ?_
    refine done_ (done_of HT_.out (by kernel_rfl)) ?_
    try go_wp2
    go_meet
    case rel => (try rw [← Nbq18.out]); exact ⟨_, ((((rd_T29 l0 x16_1).f1) != 2)), (by first | rfl | (simp; done) | (simp [*]; done)), H', ⟨by have := HK1.out; first | omega | exact Nat.le_refl _⟩, ⟨mp_ HM_3⟩, ⟨bk_ BK114⟩, ⟨bw1_ HB GE114⟩⟩}
    {
    replace c19 := Bool.eq_false_iff.mpr c19
    subst c19
    rw [if_neg (show ¬ (false = true) by decide)] at H
    have H' := Aside0.mk H
    clear H
    try go_wp2
    have n0_ : Aside0 (((((w9.setCell ⟨gb114, 0, none⟩ (.string ((rd_T29 l0 x16_1).f0))).setCell ⟨gb114, 1, none⟩ (.int .i64 ((rd_T29 l0 x16_1).f1))).setCell ⟨gb114, 2, none⟩ (.string ((rd_T29 l0 x16_1).f2))).setCell ⟨gb114, 3, none⟩ (.bool (false))).heap[gb114]? = some (.cells #[.string ((rd_T29 l0 x16_1).f0), .int .i64 ((rd_T29 l0 x16_1).f1), .string ((rd_T29 l0 x16_1).f2), .bool false] 29 (0, 0))) := ⟨by (with_reducible repeat (first | refine blk_drewN ?_ _ | refine blk_drew ?_ | refine blk_alloc ?_ _)); refine blk_put (cs := #[.string ((rd_T29 l0 x16_1).f0), .int .i64 ((rd_T29 l0 x16_1).f1), .string ((rd_T29 l0 x16_1).f2), .bool false]) ?_ 3 _ rfl; (with_reducible repeat (first | refine blk_drewN ?_ _ | refine blk_drew ?_ | refine blk_alloc ?_ _)); refine blk_put (cs := #[.string ((rd_T29 l0 x16_1).f0), .int .i64 ((rd_T29 l0 x16_1).f1), .string (⟨#[]⟩ : ByteArray), .bool false]) ?_ 2 _ rfl; (with_reducible repeat (first | refine blk_drewN ?_ _ | refine blk_drew ?_ | refine blk_alloc ?_ _)); refine blk_put (cs := #[.string ((rd_T29 l0 x16_1).f0), .int .i64 0, .string (⟨#[]⟩ : ByteArray), .bool false]) ?_ 1 _ rfl; (with_reducible repeat (first | refine blk_drewN ?_ _ | refine blk_drew ?_ | refine blk_alloc ?_ _)); refine blk_put (cs := #[.string (⟨#[]⟩ : ByteArray), .int .i64 0, .string (⟨#[]⟩ : ByteArray), .bool false]) ?_ 0 _ rfl; exact bk_ BK114⟩
    have n1_ : Aside0 (MapAt (kkStr Tryd.prog 9 Tryd.underlying9) ekI64 ((((w9.setCell ⟨gb114, 0, none⟩ (.string ((rd_T29 l0 x16_1).f0))).setCell ⟨gb114, 1, none⟩ (.int .i64 ((rd_T29 l0 x16_1).f1))).setCell ⟨gb114, 2, none⟩ (.string ((rd_T29 l0 x16_1).f2))).setCell ⟨gb114, 3, none⟩ (.bool (false))) gm112 x3_1) := ⟨mp_ HM_3⟩
    have n2_ : Aside0 (Below w.heap.size w ((((w9.setCell ⟨gb114, 0, none⟩ (.string ((rd_T29 l0 x16_1).f0))).setCell ⟨gb114, 1, none⟩ (.int .i64 ((rd_T29 l0 x16_1).f1))).setCell ⟨gb114, 2, none⟩ (.string ((rd_T29 l0 x16_1).f2))).setCell ⟨gb114, 3, none⟩ (.bool (false)))) := ⟨bw1_ HB GE114⟩
    (try rw [← Nbq18.out])
    (try clear BK114)
    (try clear HM_3)
    (try clear HB)
    generalize ((((w9.setCell ⟨gb114, 0, none⟩ (.string ((rd_T29 l0 x16_1).f0))).setCell ⟨gb114, 1, none⟩ (.int .i64 ((rd_T29 l0 x16_1).f1))).setCell ⟨gb114, 2, none⟩ (.string ((rd_T29 l0 x16_1).f2))).setCell ⟨gb114, 3, none⟩ (.bool (false))) = w23 at n0_ n1_ n2_ ⊢
    have BK114 := n0_
    have HM_3 := n1_
    have HB := n2_
    clear n0_ n1_ n2_
    replace BK114 := Aside0.mk (blk_drew BK114.out)
    replace HM_3 := Aside0.mk (MapAt.drew HM_3.out)
    replace HB := Aside0.mk (below_drew1 HB.out)
    have p116 : 0 ≤ ((ji14) : Int) := dA_
    have q116 : (ji14) < (l0.length : Int) := dA_
    obtain ⟨ad116, e116, hx116_0, hx116_1, hx116_2, hx116_3⟩ := at_T29 HR0.out (ji14) p116 q116
    have hw116_3 := hx116_3
    (try rw [← Nbq18.out] at hw116_3)
    have hw116_2 := hx116_2
    (try rw [← Nbq18.out] at hw116_2)
    have hw116_1 := hx116_1
    (try rw [← Nbq18.out] at hw116_1)
    have hw116_0 := hx116_0
    (try rw [← Nbq18.out] at hw116_0)
    (try rw [← Nbq18.out] at hx116_3)
    obtain rfl : ad113 = ad116 := (by injection e116)
    replace hx116_0 := hX_ HB hx116_0
    replace hx116_1 := hX_ HB hx116_1
    replace hx116_2 := hX_ HB hx116_2
    replace hx116_3 := hX_ HB hx116_3
    replace p116 := eq_true p116
    replace q116 := eq_true q116
    refine start_ (n := 28) (S := fun w' => w'.cell? ⟨gb114, 0, none⟩ = some (.string ((rd_T29 l0 x16_1).f0)) ∧ w'.cell? ⟨gb114, 1, none⟩ = some (.int .i64 ((rd_T29 l0 x16_1).f1)) ∧ w'.cell? ⟨gb114, 2, none⟩ = some (.string ((rd_T29 l0 x16_1).f2)) ∧ w'.cell? ⟨gb114, 3, none⟩ = some (.bool false) ∧ w'.cell? (ad113.add (((ji14)).toNat * 4)) = some (.string ((rd_T29 l0 (ji14)).f0)) ∧ w'.cell? ⟨(ad113.add (((ji14)).toNat * 4)).block, (ad113.add (((ji14)).toNat * 4)).off + 1, none⟩ = some (.int .i64 ((rd_T29 l0 (ji14)).f1)) ∧ w'.cell? ⟨(ad113.add (((ji14)).toNat * 4)).block, (ad113.add (((ji14)).toNat * 4)).off + 2, none⟩ = some (.string ((rd_T29 l0 (ji14)).f2)) ∧ w'.cell? ⟨(ad113.add (((ji14)).toNat * 4)).block, (ad113.add (((ji14)).toNat * 4)).off + 3, none⟩ = some (.bool ((rd_T29 l0 (ji14)).f3))) (ds := []) (bs_ 28 0) (by kernel_rfl) rfl (by kernel_rfl) ⟨(blk_cell BK114.out 0).trans rfl, (blk_cell BK114.out 1).trans rfl, (blk_cell BK114.out 2).trans rfl, (blk_cell BK114.out 3).trans rfl, ((HB.out.cell (World.block_lt_of_cell? w _ hw116_0)).trans hw116_0), ((HB.out.cell (World.block_lt_of_cell? w _ hw116_1)).trans hw116_1), ((HB.out.cell (World.block_lt_of_cell? w _ hw116_2)).trans hw116_2), ((HB.out.cell (World.block_lt_of_cell? w _ hw116_3)).trans hw116_3)⟩ (fun hHeld => ?_); refine with_tabW impl_TreeOk.tab7 impl_TreeOk.bits7 (fun HT_ HW_ => ?_)
    generalize w23.drew = w24 at BK114 HM_3 HB hx116_0 hx116_1 hx116_2 hx116_3 hHeld ⊢
    refine pS_ 0 ?_
    refine t8_ 1 hHeld ?_
    refine oS_ 2 (fun K hK => ?_)
    refine gS_ Tryd.func45 #[.string ((rd_T29 l0 x16_1).f0)] ?_
    with_reducible refine (impl_pathOk.calls k1 ((rd_T29 l0 x16_1).f0) true _ ?side1 A11.out).mono ?_
    (case side1 => refine EnvW.below HE.out ?_; exact bw1_ HB GE114)
    rintro e w25 ⟨rfl, hb⟩
    refine ⟨_, rfl, ?_⟩
    replace HM_3 := Aside0.mk (MapAt.below (mp_ HM_3) hb)
    replace BK114 := Aside0.mk (blk_below (bk_ BK114) hb)
    replace HB := Aside0.mk (below_step (bw1_ HB GE114) hb)
    (try clear hb)
    (try clear hb2)
    (try clear hk)
    (try clear hi)
    refine hK.out _ _ ⟨(blk_cell BK114.out 0).trans rfl, (blk_cell BK114.out 1).trans rfl, (blk_cell BK114.out 2).trans rfl, (blk_cell BK114.out 3).trans rfl, ((HB.out.cell (World.block_lt_of_cell? w _ hw116_0)).trans hw116_0), ((HB.out.cell (World.block_lt_of_cell? w _ hw116_1)).trans hw116_1), ((HB.out.cell (World.block_lt_of_cell? w _ hw116_2)).trans hw116_2), ((HB.out.cell (World.block_lt_of_cell? w _ hw116_3)).trans hw116_3)⟩ (fun hHeld => ?_)
    clear hK K
    refine nS_ 23 ?_
    refine pS_ 3 ?_
    refine pS_ 4 ?_
    refine pS_ 5 ?_
    refine pS_ 6 ?_
    refine pS_ 7 ?_
    refine pS_ 8 ?_
    refine pS_ 10 ?_
    refine pS_ 11 ?_
    refine pS_ 12 ?_
    refine pS_ 13 ?_
    refine pS_ 14 ?_
    refine t8_ 9 hHeld ?_
    refine t8_ 15 hHeld ?_
    refine pS_ 16 ?_
    refine pS_ 17 ?_
    refine pS_ 18 ?_
    refine pS_ 19 ?_
    refine pS_ 20 ?_
    refine t8_ 21 hHeld ?_
    refine pS_ 22 ?_
    refine pU_ 23 ?_
    refine pU_ 24 ?_
    refine pU_ 25 ?_
    refine pS_ 26 ?_
    refine pS_ 27 ?_
    refine done_ (done_of HT_.out (by kernel_rfl)) ?_
    try go_wp2
    go_meet
    case rel => (try rw [← Nbq18.out]); exact ⟨_, (false), (by first | rfl | (simp; done) | (simp [*]; done)), H', ⟨by have := HK1.out; first | omega | exact Nat.le_refl _⟩, ⟨mp_ HM_3⟩, ⟨bk_ BK114⟩, ⟨bw1_ HB GE114⟩⟩}}
    {
    rw [if_neg c17] at H
    have c17b0 : (Op.bytesLess (((rd_T29 l0 (ji14)).f0).toList) (((rd_T29 l0 x16_1).f0).toList)) = false := by simpa using c17
    clear c17
    have H' := Aside0.mk H
    clear H
    try go_wp2
    have n0_ : Aside0 (((((w9.setCell ⟨gb114, 0, none⟩ (.string ((rd_T29 l0 x16_1).f0))).setCell ⟨gb114, 1, none⟩ (.int .i64 ((rd_T29 l0 x16_1).f1))).setCell ⟨gb114, 2, none⟩ (.string ((rd_T29 l0 x16_1).f2))).setCell ⟨gb114, 3, none⟩ (.bool ((rd_T29 l0 x16_1).f3))).heap[gb114]? = some (.cells #[.string ((rd_T29 l0 x16_1).f0), .int .i64 ((rd_T29 l0 x16_1).f1), .string ((rd_T29 l0 x16_1).f2), .bool ((rd_T29 l0 x16_1).f3)] 29 (0, 0))) := ⟨by (with_reducible repeat (first | refine blk_drewN ?_ _ | refine blk_drew ?_ | refine blk_alloc ?_ _)); refine blk_put (cs := #[.string ((rd_T29 l0 x16_1).f0), .int .i64 ((rd_T29 l0 x16_1).f1), .string ((rd_T29 l0 x16_1).f2), .bool false]) ?_ 3 _ rfl; (with_reducible repeat (first | refine blk_drewN ?_ _ | refine blk_drew ?_ | refine blk_alloc ?_ _)); refine blk_put (cs := #[.string ((rd_T29 l0 x16_1).f0), .int .i64 ((rd_T29 l0 x16_1).f1), .string (⟨#[]⟩ : ByteArray), .bool false]) ?_ 2 _ rfl; (with_reducible repeat (first | refine blk_drewN ?_ _ | refine blk_drew ?_ | refine blk_alloc ?_ _)); refine blk_put (cs := #[.string ((rd_T29 l0 x16_1).f0), .int .i64 0, .string (⟨#[]⟩ : ByteArray), .bool false]) ?_ 1 _ rfl; (with_reducible repeat (first | refine blk_drewN ?_ _ | refine blk_drew ?_ | refine blk_alloc ?_ _)); refine blk_put (cs := #[.string (⟨#[]⟩ : ByteArray), .int .i64 0, .string (⟨#[]⟩ : ByteArray), .bool false]) ?_ 0 _ rfl; exact bk_ BK114⟩
    have n1_ : Aside0 (MapAt (kkStr Tryd.prog 9 Tryd.underlying9) ekI64 ((((w9.setCell ⟨gb114, 0, none⟩ (.string ((rd_T29 l0 x16_1).f0))).setCell ⟨gb114, 1, none⟩ (.int .i64 ((rd_T29 l0 x16_1).f1))).setCell ⟨gb114, 2, none⟩ (.string ((rd_T29 l0 x16_1).f2))).setCell ⟨gb114, 3, none⟩ (.bool ((rd_T29 l0 x16_1).f3))) gm112 x3_1) := ⟨mp_ HM_3⟩
    have n2_ : Aside0 (Below w.heap.size w ((((w9.setCell ⟨gb114, 0, none⟩ (.string ((rd_T29 l0 x16_1).f0))).setCell ⟨gb114, 1, none⟩ (.int .i64 ((rd_T29 l0 x16_1).f1))).setCell ⟨gb114, 2, none⟩ (.string ((rd_T29 l0 x16_1).f2))).setCell ⟨gb114, 3, none⟩ (.bool ((rd_T29 l0 x16_1).f3)))) := ⟨bw1_ HB GE114⟩
    (try clear BK114)
    (try clear HM_3)
    (try clear HB)
    generalize ((((w9.setCell ⟨gb114, 0, none⟩ (.string ((rd_T29 l0 x16_1).f0))).setCell ⟨gb114, 1, none⟩ (.int .i64 ((rd_T29 l0 x16_1).f1))).setCell ⟨gb114, 2, none⟩ (.string ((rd_T29 l0 x16_1).f2))).setCell ⟨gb114, 3, none⟩ (.bool ((rd_T29 l0 x16_1).f3))) = w26 at n0_ n1_ n2_ ⊢
    have BK114 := n0_
    have HM_3 := n1_
    have HB := n2_
    clear n0_ n1_ n2_
    replace BK114 := Aside0.mk (blk_drew BK114.out)
    replace HM_3 := Aside0.mk (MapAt.drew HM_3.out)
    replace HB := Aside0.mk (below_drew1 HB.out)
    have p116 : 0 ≤ ((ji14) : Int) := dA_
    have q116 : (ji14) < (l0.length : Int) := dA_
    obtain ⟨ad116, e116, hx116_0, hx116_1, hx116_2, hx116_3⟩ := at_T29 HR0.out (ji14) p116 q116
    have hw116_3 := hx116_3
    have hw116_2 := hx116_2
    have hw116_1 := hx116_1
    have hw116_0 := hx116_0
    obtain rfl : ad113 = ad116 := (by injection e116)
    replace hx116_0 := hX_ HB hx116_0
    replace hx116_1 := hX_ HB hx116_1
    replace hx116_2 := hX_ HB hx116_2
    replace hx116_3 := hX_ HB hx116_3
    replace p116 := eq_true p116
    replace q116 := eq_true q116
    refine start_ (n := 28) (S := fun w' => w'.cell? ⟨gb114, 0, none⟩ = some (.string ((rd_T29 l0 x16_1).f0)) ∧ w'.cell? ⟨gb114, 1, none⟩ = some (.int .i64 ((rd_T29 l0 x16_1).f1)) ∧ w'.cell? ⟨gb114, 2, none⟩ = some (.string ((rd_T29 l0 x16_1).f2)) ∧ w'.cell? ⟨gb114, 3, none⟩ = some (.bool ((rd_T29 l0 x16_1).f3)) ∧ w'.cell? (ad113.add (((ji14)).toNat * 4)) = some (.string ((rd_T29 l0 (ji14)).f0)) ∧ w'.cell? ⟨(ad113.add (((ji14)).toNat * 4)).block, (ad113.add (((ji14)).toNat * 4)).off + 1, none⟩ = some (.int .i64 ((rd_T29 l0 (ji14)).f1)) ∧ w'.cell? ⟨(ad113.add (((ji14)).toNat * 4)).block, (ad113.add (((ji14)).toNat * 4)).off + 2, none⟩ = some (.string ((rd_T29 l0 (ji14)).f2)) ∧ w'.cell? ⟨(ad113.add (((ji14)).toNat * 4)).block, (ad113.add (((ji14)).toNat * 4)).off + 3, none⟩ = some (.bool ((rd_T29 l0 (ji14)).f3))) (ds := []) (bs_ 28 0) (by kernel_rfl) rfl (by kernel_rfl) ⟨(blk_cell BK114.out 0).trans rfl, (blk_cell BK114.out 1).trans rfl, (blk_cell BK114.out 2).trans rfl, (blk_cell BK114.out 3).trans rfl, ((HB.out.cell (World.block_lt_of_cell? w _ hw116_0)).trans hw116_0), ((HB.out.cell (World.block_lt_of_cell? w _ hw116_1)).trans hw116_1), ((HB.out.cell (World.block_lt_of_cell? w _ hw116_2)).trans hw116_2), ((HB.out.cell (World.block_lt_of_cell? w _ hw116_3)).trans hw116_3)⟩ (fun hHeld => ?_); refine with_tabW impl_TreeOk.tab7 impl_TreeOk.bits7 (fun HT_ HW_ => ?_)
    generalize w26.drew = w27 at BK114 HM_3 HB hx116_0 hx116_1 hx116_2 hx116_3 hHeld ⊢
    refine pS_ 0 ?_
    refine t8_ 1 hHeld ?_
    refine oS_ 2 (fun K hK => ?_)
    refine gS_ Tryd.func45 #[.string ((rd_T29 l0 x16_1).f0)] ?_
    with_reducible refine (impl_pathOk.calls k1 ((rd_T29 l0 x16_1).f0) true _ ?side1 A11.out).mono ?_
    (case side1 => refine EnvW.below HE.out ?_; exact bw1_ HB GE114)
    rintro e w28 ⟨rfl, hb⟩
    refine ⟨_, rfl, ?_⟩
    replace HM_3 := Aside0.mk (MapAt.below (mp_ HM_3) hb)
    replace BK114 := Aside0.mk (blk_below (bk_ BK114) hb)
    replace HB := Aside0.mk (below_step (bw1_ HB GE114) hb)
    (try clear hb)
    (try clear hb2)
    (try clear hk)
    (try clear hi)
    refine hK.out _ _ ⟨(blk_cell BK114.out 0).trans rfl, (blk_cell BK114.out 1).trans rfl, (blk_cell BK114.out 2).trans rfl, (blk_cell BK114.out 3).trans rfl, ((HB.out.cell (World.block_lt_of_cell? w _ hw116_0)).trans hw116_0), ((HB.out.cell (World.block_lt_of_cell? w _ hw116_1)).trans hw116_1), ((HB.out.cell (World.block_lt_of_cell? w _ hw116_2)).trans hw116_2), ((HB.out.cell (World.block_lt_of_cell? w _ hw116_3)).trans hw116_3)⟩ (fun hHeld => ?_)
    clear hK K
    refine nS_ 23 ?_
    refine pS_ 3 ?_
    refine pS_ 4 ?_
    refine pS_ 5 ?_
    refine pS_ 6 ?_
    refine pS_ 7 ?_
    refine pS_ 8 ?_
    refine pS_ 10 ?_
    refine pS_ 11 ?_
    refine pS_ 12 ?_
    refine pS_ 13 ?_
    refine pS_ 14 ?_
    refine t8_ 9 hHeld ?_
    refine t8_ 15 hHeld ?_
    refine pS_ 16 ?_
    refine pS_ 17 ?_
    refine pS_ 18 ?_
    refine pS_ 19 ?_
    refine pU_ 20 ?_
    refine pU_ 21 ?_
    refine pU_ 22 ?_
    refine pU_ 23 ?_
    refine pU_ 24 ?_
    refine pU_ 25 ?_
    refine pU_ 26 ?_
    refine pS_ 27 ?_
    refine done_ (done_of HT_.out (by kernel_rfl)) ?_
    try go_wp2
    go_meet
    case rel => exact ⟨_, (true), (by first | rfl | (simp; done) | (simp [*]; done)), H', ⟨by have := HK1.out; first | omega | exact Nat.le_refl _⟩, ⟨mp_ HM_3⟩, ⟨bk_ BK114⟩, ⟨bw1_ HB GE114⟩⟩}}
    {
    rw [if_neg c16] at H
    exact absurd H (by simp)}}
    {
    rw [if_neg c15] at H
    exact absurd H (by simp)}}
    {
    rw [if_neg c13] at H
    have c13b0 : decide (0 < x16_1) = false := decide_eq_false c13
    clear c13
    (first | rw [c13b0] | (simp only [i64_w, i32_w]; rw [c13b0]) | skip)
    obtain ⟨bq29, hbq29⟩ : ∃ b_ : Bool, b_ = ((rd_T29 l0 x16_1).f3) := ⟨_, rfl⟩
    replace H : (if bq29 = true then (impl_TreeOk.j1 k1 l0 x3_1 l0 (l0.length : Int) x16_1 (((rd_T29 l0 x16_1).f1) != 2) ((rd_T29 l0 x16_1).f0) ((rd_T29 l0 x16_1).f1) ((rd_T29 l0 x16_1).f2) bq29) else (impl_TreeOk.j1 k1 l0 x3_1 l0 (l0.length : Int) x16_1 false ((rd_T29 l0 x16_1).f0) ((rd_T29 l0 x16_1).f1) ((rd_T29 l0 x16_1).f2) bq29)) = some r := by rw [← hbq29] at H; exact H
    have Nbq29 := Aside0.mk hbq29
    clear hbq29
    by_cases c30 : bq29 = true
    {
    subst c30
    rw [if_pos rfl] at H
    have H' := Aside0.mk H
    clear H
    try go_wp2
    have n0_ : Aside0 (((((w9.setCell ⟨gb114, 0, none⟩ (.string ((rd_T29 l0 x16_1).f0))).setCell ⟨gb114, 1, none⟩ (.int .i64 ((rd_T29 l0 x16_1).f1))).setCell ⟨gb114, 2, none⟩ (.string ((rd_T29 l0 x16_1).f2))).setCell ⟨gb114, 3, none⟩ (.bool (true))).heap[gb114]? = some (.cells #[.string ((rd_T29 l0 x16_1).f0), .int .i64 ((rd_T29 l0 x16_1).f1), .string ((rd_T29 l0 x16_1).f2), .bool true] 29 (0, 0))) := ⟨by (with_reducible repeat (first | refine blk_drewN ?_ _ | refine blk_drew ?_ | refine blk_alloc ?_ _)); refine blk_put (cs := #[.string ((rd_T29 l0 x16_1).f0), .int .i64 ((rd_T29 l0 x16_1).f1), .string ((rd_T29 l0 x16_1).f2), .bool false]) ?_ 3 _ rfl; (with_reducible repeat (first | refine blk_drewN ?_ _ | refine blk_drew ?_ | refine blk_alloc ?_ _)); refine blk_put (cs := #[.string ((rd_T29 l0 x16_1).f0), .int .i64 ((rd_T29 l0 x16_1).f1), .string (⟨#[]⟩ : ByteArray), .bool false]) ?_ 2 _ rfl; (with_reducible repeat (first | refine blk_drewN ?_ _ | refine blk_drew ?_ | refine blk_alloc ?_ _)); refine blk_put (cs := #[.string ((rd_T29 l0 x16_1).f0), .int .i64 0, .string (⟨#[]⟩ : ByteArray), .bool false]) ?_ 1 _ rfl; (with_reducible repeat (first | refine blk_drewN ?_ _ | refine blk_drew ?_ | refine blk_alloc ?_ _)); refine blk_put (cs := #[.string (⟨#[]⟩ : ByteArray), .int .i64 0, .string (⟨#[]⟩ : ByteArray), .bool false]) ?_ 0 _ rfl; exact bk_ BK114⟩
    have n1_ : Aside0 (MapAt (kkStr Tryd.prog 9 Tryd.underlying9) ekI64 ((((w9.setCell ⟨gb114, 0, none⟩ (.string ((rd_T29 l0 x16_1).f0))).setCell ⟨gb114, 1, none⟩ (.int .i64 ((rd_T29 l0 x16_1).f1))).setCell ⟨gb114, 2, none⟩ (.string ((rd_T29 l0 x16_1).f2))).setCell ⟨gb114, 3, none⟩ (.bool (true))) gm112 x3_1) := ⟨mp_ HM_3⟩
    have n2_ : Aside0 (Below w.heap.size w ((((w9.setCell ⟨gb114, 0, none⟩ (.string ((rd_T29 l0 x16_1).f0))).setCell ⟨gb114, 1, none⟩ (.int .i64 ((rd_T29 l0 x16_1).f1))).setCell ⟨gb114, 2, none⟩ (.string ((rd_T29 l0 x16_1).f2))).setCell ⟨gb114, 3, none⟩ (.bool (true)))) := ⟨bw1_ HB GE114⟩
    (try rw [← Nbq29.out])
    (try clear BK114)
    (try clear HM_3)
    (try clear HB)
    generalize ((((w9.setCell ⟨gb114, 0, none⟩ (.string ((rd_T29 l0 x16_1).f0))).setCell ⟨gb114, 1, none⟩ (.int .i64 ((rd_T29 l0 x16_1).f1))).setCell ⟨gb114, 2, none⟩ (.string ((rd_T29 l0 x16_1).f2))).setCell ⟨gb114, 3, none⟩ (.bool (true))) = w31 at n0_ n1_ n2_ ⊢
    have BK114 := n0_
    have HM_3 := n1_
    have HB := n2_
    clear n0_ n1_ n2_
    replace BK114 := Aside0.mk (blk_drew BK114.out)
    replace HM_3 := Aside0.mk (MapAt.drew HM_3.out)
    replace HB := Aside0.mk (below_drew1 HB.out)
    refine start_ (n := 28) (S := fun w' => w'.cell? ⟨gb114, 0, none⟩ = some (.string ((rd_T29 l0 x16_1).f0)) ∧ w'.cell? ⟨gb114, 1, none⟩ = some (.int .i64 ((rd_T29 l0 x16_1).f1)) ∧ w'.cell? ⟨gb114, 2, none⟩ = some (.string ((rd_T29 l0 x16_1).f2)) ∧ w'.cell? ⟨gb114, 3, none⟩ = some (.bool true)) (ds := []) (bs_ 28 0) (by kernel_rfl) rfl (by kernel_rfl) ⟨(blk_cell BK114.out 0).trans rfl, (blk_cell BK114.out 1).trans rfl, (blk_cell BK114.out 2).trans rfl, (blk_cell BK114.out 3).trans rfl⟩ (fun hHeld => ?_); refine with_tabW impl_TreeOk.tab7 impl_TreeOk.bits7 (fun HT_ HW_ => ?_)
    generalize w31.drew = w32 at BK114 HM_3 HB hHeld ⊢
    refine pS_ 0 ?_
    refine t4_ 1 hHeld ?_
    refine oS_ 2 (fun K hK => ?_)
    refine gS_ Tryd.func45 #[.string ((rd_T29 l0 x16_1).f0)] ?_
    with_reducible refine (impl_pathOk.calls k1 ((rd_T29 l0 x16_1).f0) true _ ?side1 A11.out).mono ?_
    (case side1 => refine EnvW.below HE.out ?_; exact bw1_ HB GE114)
    rintro e w33 ⟨rfl, hb⟩
    refine ⟨_, rfl, ?_⟩
    replace HM_3 := Aside0.mk (MapAt.below (mp_ HM_3) hb)
    replace BK114 := Aside0.mk (blk_below (bk_ BK114) hb)
    replace HB := Aside0.mk (below_step (bw1_ HB GE114) hb)
    (try clear hb)
    (try clear hb2)
    (try clear hk)
    (try clear hi)
    refine hK.out _ _ ⟨(blk_cell BK114.out 0).trans rfl, (blk_cell BK114.out 1).trans rfl, (blk_cell BK114.out 2).trans rfl, (blk_cell BK114.out 3).trans rfl⟩ (fun hHeld => ?_)
    clear hK K
    refine nS_ 23 ?_
    refine pS_ 3 ?_
    refine pS_ 4 ?_
    refine pS_ 5 ?_
    refine pS_ 6 ?_
    refine pS_ 7 ?_
    refine pU_ 8 ?_
    refine pU_ 9 ?_
    refine pU_ 10 ?_
    refine pU_ 11 ?_
    refine pU_ 12 ?_
    refine pU_ 13 ?_
    refine pU_ 14 ?_
    refine pU_ 15 ?_
    refine pU_ 16 ?_
    refine pS_ 17 ?_
    refine pS_ 18 ?_
    refine pS_ 19 ?_
    refine pS_ 20 ?_
    refine t4_ 21 hHeld ?_
    refine pS_ 22 ?_
    refine pS_ 23 ?_
    refine t4_ 24 hHeld ?_
    refine pS_ 25 ?_
    refine pS_ 26 ?_
    refine pS_ 27 ?_
    refine done_ (done_of HT_.out (by kernel_rfl)) ?_
    try go_wp2
    go_meet
    case rel => (try rw [← Nbq29.out]); exact ⟨_, ((((rd_T29 l0 x16_1).f1) != 2)), (by first | rfl | (simp; done) | (simp [*]; done)), H', ⟨by have := HK1.out; first | omega | exact Nat.le_refl _⟩, ⟨mp_ HM_3⟩, ⟨bk_ BK114⟩, ⟨bw1_ HB GE114⟩⟩}
    {
    replace c30 := Bool.eq_false_iff.mpr c30
    subst c30
    rw [if_neg (show ¬ (false = true) by decide)] at H
    have H' := Aside0.mk H
    clear H
    try go_wp2
    have n0_ : Aside0 (((((w9.setCell ⟨gb114, 0, none⟩ (.string ((rd_T29 l0 x16_1).f0))).setCell ⟨gb114, 1, none⟩ (.int .i64 ((rd_T29 l0 x16_1).f1))).setCell ⟨gb114, 2, none⟩ (.string ((rd_T29 l0 x16_1).f2))).setCell ⟨gb114, 3, none⟩ (.bool (false))).heap[gb114]? = some (.cells #[.string ((rd_T29 l0 x16_1).f0), .int .i64 ((rd_T29 l0 x16_1).f1), .string ((rd_T29 l0 x16_1).f2), .bool false] 29 (0, 0))) := ⟨by (with_reducible repeat (first | refine blk_drewN ?_ _ | refine blk_drew ?_ | refine blk_alloc ?_ _)); refine blk_put (cs := #[.string ((rd_T29 l0 x16_1).f0), .int .i64 ((rd_T29 l0 x16_1).f1), .string ((rd_T29 l0 x16_1).f2), .bool false]) ?_ 3 _ rfl; (with_reducible repeat (first | refine blk_drewN ?_ _ | refine blk_drew ?_ | refine blk_alloc ?_ _)); refine blk_put (cs := #[.string ((rd_T29 l0 x16_1).f0), .int .i64 ((rd_T29 l0 x16_1).f1), .string (⟨#[]⟩ : ByteArray), .bool false]) ?_ 2 _ rfl; (with_reducible repeat (first | refine blk_drewN ?_ _ | refine blk_drew ?_ | refine blk_alloc ?_ _)); refine blk_put (cs := #[.string ((rd_T29 l0 x16_1).f0), .int .i64 0, .string (⟨#[]⟩ : ByteArray), .bool false]) ?_ 1 _ rfl; (with_reducible repeat (first | refine blk_drewN ?_ _ | refine blk_drew ?_ | refine blk_alloc ?_ _)); refine blk_put (cs := #[.string (⟨#[]⟩ : ByteArray), .int .i64 0, .string (⟨#[]⟩ : ByteArray), .bool false]) ?_ 0 _ rfl; exact bk_ BK114⟩
    have n1_ : Aside0 (MapAt (kkStr Tryd.prog 9 Tryd.underlying9) ekI64 ((((w9.setCell ⟨gb114, 0, none⟩ (.string ((rd_T29 l0 x16_1).f0))).setCell ⟨gb114, 1, none⟩ (.int .i64 ((rd_T29 l0 x16_1).f1))).setCell ⟨gb114, 2, none⟩ (.string ((rd_T29 l0 x16_1).f2))).setCell ⟨gb114, 3, none⟩ (.bool (false))) gm112 x3_1) := ⟨mp_ HM_3⟩
    have n2_ : Aside0 (Below w.heap.size w ((((w9.setCell ⟨gb114, 0, none⟩ (.string ((rd_T29 l0 x16_1).f0))).setCell ⟨gb114, 1, none⟩ (.int .i64 ((rd_T29 l0 x16_1).f1))).setCell ⟨gb114, 2, none⟩ (.string ((rd_T29 l0 x16_1).f2))).setCell ⟨gb114, 3, none⟩ (.bool (false)))) := ⟨bw1_ HB GE114⟩
    (try rw [← Nbq29.out])
    (try clear BK114)
    (try clear HM_3)
    (try clear HB)
    generalize ((((w9.setCell ⟨gb114, 0, none⟩ (.string ((rd_T29 l0 x16_1).f0))).setCell ⟨gb114, 1, none⟩ (.int .i64 ((rd_T29 l0 x16_1).f1))).setCell ⟨gb114, 2, none⟩ (.string ((rd_T29 l0 x16_1).f2))).setCell ⟨gb114, 3, none⟩ (.bool (false))) = w34 at n0_ n1_ n2_ ⊢
    have BK114 := n0_
    have HM_3 := n1_
    have HB := n2_
    clear n0_ n1_ n2_
    replace BK114 := Aside0.mk (blk_drew BK114.out)
    replace HM_3 := Aside0.mk (MapAt.drew HM_3.out)
    replace HB := Aside0.mk (below_drew1 HB.out)
    refine start_ (n := 28) (S := fun w' => w'.cell? ⟨gb114, 0, none⟩ = some (.string ((rd_T29 l0 x16_1).f0)) ∧ w'.cell? ⟨gb114, 1, none⟩ = some (.int .i64 ((rd_T29 l0 x16_1).f1)) ∧ w'.cell? ⟨gb114, 2, none⟩ = some (.string ((rd_T29 l0 x16_1).f2)) ∧ w'.cell? ⟨gb114, 3, none⟩ = some (.bool false)) (ds := []) (bs_ 28 0) (by kernel_rfl) rfl (by kernel_rfl) ⟨(blk_cell BK114.out 0).trans rfl, (blk_cell BK114.out 1).trans rfl, (blk_cell BK114.out 2).trans rfl, (blk_cell BK114.out 3).trans rfl⟩ (fun hHeld => ?_); refine with_tabW impl_TreeOk.tab7 impl_TreeOk.bits7 (fun HT_ HW_ => ?_)
    generalize w34.drew = w35 at BK114 HM_3 HB hHeld ⊢
    refine pS_ 0 ?_
    refine t4_ 1 hHeld ?_
    refine oS_ 2 (fun K hK => ?_)
    refine gS_ Tryd.func45 #[.string ((rd_T29 l0 x16_1).f0)] ?_
    with_reducible refine (impl_pathOk.calls k1 ((rd_T29 l0 x16_1).f0) true _ ?side1 A11.out).mono ?_
    (case side1 => refine EnvW.below HE.out ?_; exact bw1_ HB GE114)
    rintro e w36 ⟨rfl, hb⟩
    refine ⟨_, rfl, ?_⟩
    replace HM_3 := Aside0.mk (MapAt.below (mp_ HM_3) hb)
    replace BK114 := Aside0.mk (blk_below (bk_ BK114) hb)
    replace HB := Aside0.mk (below_step (bw1_ HB GE114) hb)
    (try clear hb)
    (try clear hb2)
    (try clear hk)
    (try clear hi)
    refine hK.out _ _ ⟨(blk_cell BK114.out 0).trans rfl, (blk_cell BK114.out 1).trans rfl, (blk_cell BK114.out 2).trans rfl, (blk_cell BK114.out 3).trans rfl⟩ (fun hHeld => ?_)
    clear hK K
    refine nS_ 23 ?_
    refine pS_ 3 ?_
    refine pS_ 4 ?_
    refine pS_ 5 ?_
    refine pS_ 6 ?_
    refine pS_ 7 ?_
    refine pU_ 8 ?_
    refine pU_ 9 ?_
    refine pU_ 10 ?_
    refine pU_ 11 ?_
    refine pU_ 12 ?_
    refine pU_ 13 ?_
    refine pU_ 14 ?_
    refine pU_ 15 ?_
    refine pU_ 16 ?_
    refine pS_ 17 ?_
    refine pS_ 18 ?_
    refine pS_ 19 ?_
    refine pS_ 20 ?_
    refine t4_ 21 hHeld ?_
    refine pS_ 22 ?_
    refine pU_ 23 ?_
    refine pU_ 24 ?_
    refine pU_ 25 ?_
    refine pS_ 26 ?_
    refine pS_ 27 ?_
    refine done_ (done_of HT_.out (by kernel_rfl)) ?_
    try go_wp2
    go_meet
    case rel => (try rw [← Nbq29.out]); exact ⟨_, (false), (by first | rfl | (simp; done) | (simp [*]; done)), H', ⟨by have := HK1.out; first | omega | exact Nat.le_refl _⟩, ⟨mp_ HM_3⟩, ⟨bk_ BK114⟩, ⟨bw1_ HB GE114⟩⟩}}}
    {
    replace c12 := Bool.eq_false_iff.mpr c12
    subst c12
    rw [if_neg (show ¬ (false = true) by decide)] at H
    have H' := Aside0.mk H
    clear H
    try go_wp2
    have n0_ : Aside0 (((((w9.setCell ⟨gb114, 0, none⟩ (.string ((rd_T29 l0 x16_1).f0))).setCell ⟨gb114, 1, none⟩ (.int .i64 ((rd_T29 l0 x16_1).f1))).setCell ⟨gb114, 2, none⟩ (.string ((rd_T29 l0 x16_1).f2))).setCell ⟨gb114, 3, none⟩ (.bool ((rd_T29 l0 x16_1).f3))).heap[gb114]? = some (.cells #[.string ((rd_T29 l0 x16_1).f0), .int .i64 ((rd_T29 l0 x16_1).f1), .string ((rd_T29 l0 x16_1).f2), .bool ((rd_T29 l0 x16_1).f3)] 29 (0, 0))) := ⟨by (with_reducible repeat (first | refine blk_drewN ?_ _ | refine blk_drew ?_ | refine blk_alloc ?_ _)); refine blk_put (cs := #[.string ((rd_T29 l0 x16_1).f0), .int .i64 ((rd_T29 l0 x16_1).f1), .string ((rd_T29 l0 x16_1).f2), .bool false]) ?_ 3 _ rfl; (with_reducible repeat (first | refine blk_drewN ?_ _ | refine blk_drew ?_ | refine blk_alloc ?_ _)); refine blk_put (cs := #[.string ((rd_T29 l0 x16_1).f0), .int .i64 ((rd_T29 l0 x16_1).f1), .string (⟨#[]⟩ : ByteArray), .bool false]) ?_ 2 _ rfl; (with_reducible repeat (first | refine blk_drewN ?_ _ | refine blk_drew ?_ | refine blk_alloc ?_ _)); refine blk_put (cs := #[.string ((rd_T29 l0 x16_1).f0), .int .i64 0, .string (⟨#[]⟩ : ByteArray), .bool false]) ?_ 1 _ rfl; (with_reducible repeat (first | refine blk_drewN ?_ _ | refine blk_drew ?_ | refine blk_alloc ?_ _)); refine blk_put (cs := #[.string (⟨#[]⟩ : ByteArray), .int .i64 0, .string (⟨#[]⟩ : ByteArray), .bool false]) ?_ 0 _ rfl; exact bk_ BK114⟩
    have n1_ : Aside0 (MapAt (kkStr Tryd.prog 9 Tryd.underlying9) ekI64 ((((w9.setCell ⟨gb114, 0, none⟩ (.string ((rd_T29 l0 x16_1).f0))).setCell ⟨gb114, 1, none⟩ (.int .i64 ((rd_T29 l0 x16_1).f1))).setCell ⟨gb114, 2, none⟩ (.string ((rd_T29 l0 x16_1).f2))).setCell ⟨gb114, 3, none⟩ (.bool ((rd_T29 l0 x16_1).f3))) gm112 x3_1) := ⟨mp_ HM_3⟩
    have n2_ : Aside0 (Below w.heap.size w ((((w9.setCell ⟨gb114, 0, none⟩ (.string ((rd_T29 l0 x16_1).f0))).setCell ⟨gb114, 1, none⟩ (.int .i64 ((rd_T29 l0 x16_1).f1))).setCell ⟨gb114, 2, none⟩ (.string ((rd_T29 l0 x16_1).f2))).setCell ⟨gb114, 3, none⟩ (.bool ((rd_T29 l0 x16_1).f3)))) := ⟨bw1_ HB GE114⟩
    (try clear BK114)
    (try clear HM_3)
    (try clear HB)
    generalize ((((w9.setCell ⟨gb114, 0, none⟩ (.string ((rd_T29 l0 x16_1).f0))).setCell ⟨gb114, 1, none⟩ (.int .i64 ((rd_T29 l0 x16_1).f1))).setCell ⟨gb114, 2, none⟩ (.string ((rd_T29 l0 x16_1).f2))).setCell ⟨gb114, 3, none⟩ (.bool ((rd_T29 l0 x16_1).f3))) = w37 at n0_ n1_ n2_ ⊢
    have BK114 := n0_
    have HM_3 := n1_
    have HB := n2_
    clear n0_ n1_ n2_
    replace BK114 := Aside0.mk (blk_drew BK114.out)
    replace HM_3 := Aside0.mk (MapAt.drew HM_3.out)
    replace HB := Aside0.mk (below_drew1 HB.out)
    refine start_ (n := 28) (S := fun w' => w'.cell? ⟨gb114, 0, none⟩ = some (.string ((rd_T29 l0 x16_1).f0)) ∧ w'.cell? ⟨gb114, 1, none⟩ = some (.int .i64 ((rd_T29 l0 x16_1).f1)) ∧ w'.cell? ⟨gb114, 2, none⟩ = some (.string ((rd_T29 l0 x16_1).f2)) ∧ w'.cell? ⟨gb114, 3, none⟩ = some (.bool ((rd_T29 l0 x16_1).f3))) (ds := []) (bs_ 28 0) (by kernel_rfl) rfl (by kernel_rfl) ⟨(blk_cell BK114.out 0).trans rfl, (blk_cell BK114.out 1).trans rfl, (blk_cell BK114.out 2).trans rfl, (blk_cell BK114.out 3).trans rfl⟩ (fun hHeld => ?_); refine with_tabW impl_TreeOk.tab7 impl_TreeOk.bits7 (fun HT_ HW_ => ?_)
    generalize w37.drew = w38 at BK114 HM_3 HB hHeld ⊢
    refine pS_ 0 ?_
    refine t4_ 1 hHeld ?_
    refine oS_ 2 (fun K hK => ?_)
    refine gS_ Tryd.func45 #[.string ((rd_T29 l0 x16_1).f0)] ?_
    with_reducible refine (impl_pathOk.calls k1 ((rd_T29 l0 x16_1).f0) false _ ?side1 A11.out).mono ?_
    (case side1 => refine EnvW.below HE.out ?_; exact bw1_ HB GE114)
    rintro e w39 ⟨rfl, hb⟩
    refine ⟨_, rfl, ?_⟩
    replace HM_3 := Aside0.mk (MapAt.below (mp_ HM_3) hb)
    replace BK114 := Aside0.mk (blk_below (bk_ BK114) hb)
    replace HB := Aside0.mk (below_step (bw1_ HB GE114) hb)
    (try clear hb)
    (try clear hb2)
    (try clear hk)
    (try clear hi)
    refine hK.out _ _ ⟨(blk_cell BK114.out 0).trans rfl, (blk_cell BK114.out 1).trans rfl, (blk_cell BK114.out 2).trans rfl, (blk_cell BK114.out 3).trans rfl⟩ (fun hHeld => ?_)
    clear hK K
    refine nS_ 23 ?_
    refine pS_ 3 ?_
    refine pS_ 4 ?_
    refine pU_ 5 ?_
    refine pU_ 6 ?_
    refine pU_ 7 ?_
    refine pU_ 8 ?_
    refine pU_ 9 ?_
    refine pU_ 10 ?_
    refine pU_ 11 ?_
    refine pU_ 12 ?_
    refine pU_ 13 ?_
    refine pU_ 14 ?_
    refine pU_ 15 ?_
    refine pU_ 16 ?_
    refine pU_ 17 ?_
    refine pS_ 18 ?_
    refine pS_ 19 ?_
    refine pU_ 20 ?_
    refine pU_ 21 ?_
    refine pU_ 22 ?_
    refine pU_ 23 ?_
    refine pU_ 24 ?_
    refine pU_ 25 ?_
    refine pU_ 26 ?_
    refine pS_ 27 ?_
    refine done_ (done_of HT_.out (by kernel_rfl)) ?_
    try go_wp2
    go_meet
    case rel => exact ⟨_, (true), (by first | rfl | (simp; done) | (simp [*]; done)), H', ⟨by have := HK1.out; first | omega | exact Nat.le_refl _⟩, ⟨mp_ HM_3⟩, ⟨bk_ BK114⟩, ⟨bw1_ HB GE114⟩⟩}
   case rest =>
    clear HC8
    try clear c1
    try clear p2
    try clear q2
    try clear c3
    try clear c4
    try clear c12
    try clear q29
    try clear c30
    obtain ⟨kq, x48_7, rfl, HA, HJ7, HM_3, BK114, HB⟩ := hcut
    cases kq with
    | zero => exact absurd HA.out (by simp [impl_TreeOk.j1])
    | succ kj7 =>
     have H := HA.out
     clear HA
     simp only [impl_TreeOk.j1] at H
     by_cases c40 : x48_7 = true
     {
     subst c40
     rw [if_pos rfl] at H
     obtain rfl := Option.some.inj H
     go_wp2
     go_ret
     exact ⟨eR_, bw1_ HB GE114⟩}
     {
     replace c40 := Bool.eq_false_iff.mpr c40
     subst c40
     rw [if_neg (show ¬ (false = true) by decide)] at H
     by_cases c41 : ((rd_T29 l0 x16_1).f1) = 1
     {
     rw [if_pos c41] at H
     have c41b0 : (((rd_T29 l0 x16_1).f1) == 1) = true := beq_iff_eq.mpr c41
     have c41b1 : (((rd_T29 l0 x16_1).f1) != 1) = false := bne_eq_false_iff_eq.mpr c41
     clear c41
     by_cases c42 : ((rd_T29 l0 x16_1).f2).toList = ([] : List UInt8)
     {
     rw [if_pos c42] at H
     have c42b0 : (((rd_T29 l0 x16_1).f2).toList == ([] : List UInt8)) = true := beq_iff_eq.mpr c42
     have c42b1 : (((rd_T29 l0 x16_1).f2).toList != ([] : List UInt8)) = false := bne_eq_false_iff_eq.mpr c42
     clear c42
     by_cases c43 : x3_1.length < 1099511627776
     {
     rw [if_pos c43] at H
     have LMc43 := Aside0.mk c43
     clear c43
     by_cases c44 : ((rd_T29 l0 x16_1).f0).size ≤ 9223372036854775807
     {
     rw [if_pos c44] at H
     have c44b0 := eq_true c44
     have c44b1 := decide_eq_true c44
     try have c44b2 : (9223372036854775807 < ((rd_T29 l0 x16_1).f0).size) = False := eq_false (Nat.not_lt.2 c44)
     clear c44
     obtain ⟨y117, hy117⟩ : ∃ y_ : List (ByteArray × Int), y_ = (x3_1 ++ [(((rd_T29 l0 x16_1).f0), 1)]) := ⟨_, rfl⟩
     replace H : (impl_TreeOk.l0 kj7 l0 y117 l0 (l0.length : Int) (wrap64 (x16_1 + 1))) = some r := rH_ hy117 H
     have Ny117 := Aside0.mk hy117
     clear hy117
     have H' := Aside0.mk H
     clear H
     obtain ⟨hcz45_0, hcz45_1, hcz45_2, hcz45_3, hfz45_0, hfz45_1, hfz45_2, hfz45_3⟩ := zc4_ BK114
     go_wp2_with (first | ((with_reducible refine gate_put (t := 67) (p := 56) rfl ?_); (try (refine gate_guard (by rfl) ?_; dsimp only)); refine map_put (kkStr Tryd.prog 9 Tryd.underlying9) ekI64 rfl 67 3 56 _ _ rfl Tryd.underlying67 gm112 x3_1 ((rd_T29 l0 x16_1).f0) 1 rfl rfl (show ((rd_T29 l0 x16_1).f0).size ≤ 9223372036854775807 from by first | assumption | exact of_eq_true (by assumption) | exact of_decide_eq_true (by assumption) | decide | omega) rfl (mp_ HM_3) LMc43.out ?_; intro w46 hmp hg; rw [← Ny117.out] at hmp; replace BK114 := Aside0.mk (far_blk (mp_ HM_3) hg (show (_ : World).heap[gb114]? = some (.cells #[.string ((rd_T29 l0 x16_1).f0), .int .i64 ((rd_T29 l0 x16_1).f1), .string ((rd_T29 l0 x16_1).f2), .bool ((rd_T29 l0 x16_1).f3)] 29 (0, 0)) from bk_ BK114)); replace HM_3 := Aside0.mk (hmp); replace HB := Aside0.mk (far_below GMgm112.out (below_size (bw1_ HB GE114)) hg (bw1_ HB GE114)); clear hmp hg))
     go_roundg kj7
     case measure => have := HK1.out; have := HJ7.out; omega
     case rel => exact ⟨(y117), (wrap64 (x16_1 + 1)), (by first | rfl | (simp; done) | (simp [*]; done)), H', ⟨by have := HK1.out; have := HJ7.out; omega⟩, ⟨mp_ HM_3⟩, ⟨bw1_ HB GE114⟩⟩}
     {
     rw [if_neg c44] at H
     exact absurd H (by simp)}}
     {
     rw [if_neg c43] at H
     exact absurd H (by simp)}}
     {
     rw [if_neg c42] at H
     have c42b0 : (((rd_T29 l0 x16_1).f2).toList == ([] : List UInt8)) = false := beq_eq_false_iff_ne.mpr c42
     have c42b1 : (((rd_T29 l0 x16_1).f2).toList != ([] : List UInt8)) = true := bne_iff_ne.mpr c42
     obtain rfl := Option.some.inj H
     obtain ⟨hcz47_0, hcz47_1, hcz47_2, hcz47_3, hfz47_0, hfz47_1, hfz47_2, hfz47_3⟩ := zc4_ BK114
     go_wp2
     go_ret
     exact ⟨eR_, bw1_ HB GE114⟩}}
     {
     rw [if_neg c41] at H
     have c41b0 : (((rd_T29 l0 x16_1).f1) == 1) = false := beq_eq_false_iff_ne.mpr c41
     have c41b1 : (((rd_T29 l0 x16_1).f1) != 1) = true := bne_iff_ne.mpr c41
     by_cases c48 : ((rd_T29 l0 x16_1).f1) = 2
     {
     rw [if_pos c48] at H
     have c48b0 : (((rd_T29 l0 x16_1).f1) == 2) = true := beq_iff_eq.mpr c48
     have c48b1 : (((rd_T29 l0 x16_1).f1) != 2) = false := bne_eq_false_iff_eq.mpr c48
     clear c48
     by_cases c49 : (((rd_T29 l0 x16_1).f2).size : Int) > 20000
     {
     rw [if_pos c49] at H
     have c49b0 : decide (20000 < (((rd_T29 l0 x16_1).f2).size : Int)) = true := decide_eq_true c49
     have c49b1 : decide (20000 < ((rd_T29 l0 x16_1).f2).size) = true := decide_eq_true (by omega)
     clear c49
     obtain rfl := Option.some.inj H
     obtain ⟨hcz50_0, hcz50_1, hcz50_2, hcz50_3, hfz50_0, hfz50_1, hfz50_2, hfz50_3⟩ := zc4_ BK114
     go_wp2
     go_ret
     exact ⟨eR_, bw1_ HB GE114⟩}
     {
     rw [if_neg c49] at H
     have c49b0 : decide (20000 < (((rd_T29 l0 x16_1).f2).size : Int)) = false := decide_eq_false c49
     have c49b1 : decide (20000 < ((rd_T29 l0 x16_1).f2).size) = false := decide_eq_false (by omega)
     clear c49
     have H' := Aside0.mk H
     clear H
     obtain ⟨hcz51_0, hcz51_1, hcz51_2, hcz51_3, hfz51_0, hfz51_1, hfz51_2, hfz51_3⟩ := zc4_ BK114
     go_wp2
     go_roundg kj7
     case measure => have := HK1.out; have := HJ7.out; omega
     case rel => exact ⟨(x3_1), (wrap64 (x16_1 + 1)), (by first | rfl | (simp; done) | (simp [*]; done)), H', ⟨by have := HK1.out; have := HJ7.out; omega⟩, ⟨mp_ HM_3⟩, ⟨bw1_ HB GE114⟩⟩}}
     {
     rw [if_neg c48] at H
     have c48b0 : (((rd_T29 l0 x16_1).f1) == 2) = false := beq_eq_false_iff_ne.mpr c48
     have c48b1 : (((rd_T29 l0 x16_1).f1) != 2) = true := bne_iff_ne.mpr c48
     by_cases c52 : ((rd_T29 l0 x16_1).f1) = 3
     {
     rw [if_pos c52] at H
     have c52b0 : (((rd_T29 l0 x16_1).f1) == 3) = true := beq_iff_eq.mpr c52
     have c52b1 : (((rd_T29 l0 x16_1).f1) != 3) = false := bne_eq_false_iff_eq.mpr c52
     clear c52
     by_cases c53 : (((rd_T29 l0 x16_1).f2).size : Int) < 1
     {
     rw [if_pos c53] at H
     have c53b0 := decide_eq_true c53
     have c53b1 : decide (((rd_T29 l0 x16_1).f2).size < 1) = true := decide_eq_true (by omega)
     clear c53
     obtain rfl := Option.some.inj H
     obtain ⟨hcz54_0, hcz54_1, hcz54_2, hcz54_3, hfz54_0, hfz54_1, hfz54_2, hfz54_3⟩ := zc4_ BK114
     go_wp2
     go_ret
     exact ⟨eR_, bw1_ HB GE114⟩}
     {
     rw [if_neg c53] at H
     have c53b0 := decide_eq_false c53
     have c53b1 : decide (((rd_T29 l0 x16_1).f2).size < 1) = false := decide_eq_false (by omega)
     clear c53
     by_cases c55 : (((rd_T29 l0 x16_1).f2).size : Int) > 20000
     {
     rw [if_pos c55] at H
     have c55b0 : decide (20000 < (((rd_T29 l0 x16_1).f2).size : Int)) = true := decide_eq_true c55
     have c55b1 : decide (20000 < ((rd_T29 l0 x16_1).f2).size) = true := decide_eq_true (by omega)
     clear c55
     obtain rfl := Option.some.inj H
     obtain ⟨hcz56_0, hcz56_1, hcz56_2, hcz56_3, hfz56_0, hfz56_1, hfz56_2, hfz56_3⟩ := zc4_ BK114
     go_wp2
     go_ret
     exact ⟨eR_, bw1_ HB GE114⟩}
     {
     rw [if_neg c55] at H
     have c55b0 : decide (20000 < (((rd_T29 l0 x16_1).f2).size : Int)) = false := decide_eq_false c55
     have c55b1 : decide (20000 < ((rd_T29 l0 x16_1).f2).size) = false := decide_eq_false (by omega)
     clear c55
     have H' := Aside0.mk H
     clear H
     obtain ⟨hcz57_0, hcz57_1, hcz57_2, hcz57_3, hfz57_0, hfz57_1, hfz57_2, hfz57_3⟩ := zc4_ BK114
     go_wp2
     go_roundg kj7
     case measure => have := HK1.out; have := HJ7.out; omega
     case rel => exact ⟨(x3_1), (wrap64 (x16_1 + 1)), (by first | rfl | (simp; done) | (simp [*]; done)), H', ⟨by have := HK1.out; have := HJ7.out; omega⟩, ⟨mp_ HM_3⟩, ⟨bw1_ HB GE114⟩⟩}}}
     {
     rw [if_neg c52] at H
     have c52b0 : (((rd_T29 l0 x16_1).f1) == 3) = false := beq_eq_false_iff_ne.mpr c52
     have c52b1 : (((rd_T29 l0 x16_1).f1) != 3) = true := bne_iff_ne.mpr c52
     obtain rfl := Option.some.inj H
     obtain ⟨hcz58_0, hcz58_1, hcz58_2, hcz58_3, hfz58_0, hfz58_1, hfz58_2, hfz58_3⟩ := zc4_ BK114
     go_wp2
     go_ret
     exact ⟨eR_, bw1_ HB GE114⟩}}}}}
   {
   rw [if_neg c7] at H
   exact absurd H (by simp)}}
   {
   rw [if_neg c6] at H
   exact absurd H (by simp)}}
   {
   rw [if_neg c5] at H
   have c5b0 := decide_eq_false c5
   clear c5
   have H' := Aside0.mk H
   clear H
   go_wp2
   go_loopg [80] k1 (fun kq v80 w' => ∃ (x80_2 : Int), v80 = .int .i64 x80_2 ∧ Aside0 (impl_TreeOk.l1 kq x3_1 l0 (l0.length : Int) x80_2 = some r) ∧ Aside0 (kq ≤ k1) ∧ Aside0 (MapAt (kkStr Tryd.prog 9 Tryd.underlying9) ekI64 w' gm112 x3_1) ∧ Aside0 (Below w.heap.size w w'))
   case atStart => exact ⟨(0), (by first | rfl | (simp; done) | (simp [*]; done)), H', ⟨Nat.le_refl _⟩, ⟨mp_ HM_3⟩, ⟨bw_ HB⟩⟩
   case round =>
    clear H'
    try clear c1
    try clear p2
    try clear q2
    try clear c3
    try clear c4
    try clear c5
    try clear c5b0
    try clear c6
    try clear p6
    try clear c7
    try clear c12
    try clear q29
    try clear c30
    try clear c40
    try clear c41
    try clear c41b0
    try clear c41b1
    try clear c42
    try clear c42b0
    try clear c42b1
    try clear c43
    try clear c44
    try clear c44b0
    try clear c44b1
    try clear c44b2
    try clear c45
    try clear c48
    try clear c48b0
    try clear c48b1
    try clear c49
    try clear c49b0
    try clear c49b1
    try clear c52
    try clear c52b0
    try clear c52b1
    try clear c53
    try clear c53b0
    try clear c53b1
    try clear c55
    try clear c55b0
    try clear c55b1
    try clear hcz45_0 hcz45_1 hcz45_2 hcz45_3
    try clear hcz47_0 hcz47_1 hcz47_2 hcz47_3
    try clear hcz50_0 hcz50_1 hcz50_2 hcz50_3
    try clear hcz51_0 hcz51_1 hcz51_2 hcz51_3
    try clear hcz54_0 hcz54_1 hcz54_2 hcz54_3
    try clear hcz56_0 hcz56_1 hcz56_2 hcz56_3
    try clear hcz57_0 hcz57_1 hcz57_2 hcz57_3
    try clear hcz58_0 hcz58_1 hcz58_2 hcz58_3
    try clear hfz45_0 hfz45_1 hfz45_2 hfz45_3
    try clear hfz47_0 hfz47_1 hfz47_2 hfz47_3
    try clear hfz50_0 hfz50_1 hfz50_2 hfz50_3
    try clear hfz51_0 hfz51_1 hfz51_2 hfz51_3
    try clear hfz54_0 hfz54_1 hfz54_2 hfz54_3
    try clear hfz56_0 hfz56_1 hfz56_2 hfz56_3
    try clear hfz57_0 hfz57_1 hfz57_2 hfz57_3
    try clear hfz58_0 hfz58_1 hfz58_2 hfz58_3
    try clear p2
    try clear q2
    try clear q29
    obtain ⟨x80_2, rfl, HA, HK2, HM_3, HB⟩ := hrel
    cases gk with
    | zero => exact absurd HA.out (by simp [impl_TreeOk.l1])
    | succ k2 =>
     have H := HA.out
     clear HA
     simp only [impl_TreeOk.l1] at H
     by_cases c59 : x80_2 < (l0.length : Int)
     {
     rw [if_pos c59] at H
     have c59b0 := decide_eq_true c59
     clear c59
     by_cases c60 : 0 ≤ x80_2
     {
     rw [if_pos c60] at H
     have c60b0 := decide_eq_true c60
     clear c60
     by_cases c61 : x80_2 < (l0.length : Int)
     {
     rw [if_pos c61] at H
     have c61b0 := decide_eq_true c61
     clear c61
     replace H := Option.bind_eq_some_iff.mp H
     obtain ⟨⟨t120, t121⟩, A620, H⟩ := H
     have A62 := Aside0.mk A620
     clear A620
     by_cases c63 : t121 = true
     {
     subst c63
     rw [if_pos rfl] at H
     by_cases c64 : t120.size ≤ 9223372036854775807
     {
     rw [if_pos c64] at H
     have c64b0 := eq_true c64
     have c64b1 := decide_eq_true c64
     try have c64b2 : (9223372036854775807 < t120.size) = False := eq_false (Nat.not_lt.2 c64)
     clear c64
     by_cases c65 : (mgetD 0 x3_1 t120) = 0
     {
     rw [if_pos c65] at H
     have c65b0 : ((mgetD 0 x3_1 t120) == 0) = true := beq_iff_eq.mpr c65
     have c65b1 : ((mgetD 0 x3_1 t120) != 0) = false := bne_eq_false_iff_eq.mpr c65
     clear c65
     obtain rfl := Option.some.inj H
     have p118 : 0 ≤ (x80_2 : Int) := dA_
     have q118 : x80_2 < (l0.length : Int) := dA_
     obtain ⟨ad118, e118, hx118_0, hx118_1, hx118_2, hx118_3⟩ := at_T29 HR0.out x80_2 p118 q118
     cases e118
     replace hx118_0 := hX_ HB hx118_0
     replace hx118_1 := hX_ HB hx118_1
     replace hx118_2 := hX_ HB hx118_2
     replace hx118_3 := hX_ HB hx118_3
     replace p118 := eq_true p118
     replace q118 := eq_true q118
     go_wp2_with (first | ((with_reducible refine gate_dst (N := 7) rfl ?_); (try (refine gate_guard (by rfl) ?_; dsimp only)); refine bE_ 7 #[.string (⟨#[]⟩ : ByteArray), .int .i64 0, .string (⟨#[]⟩ : ByteArray), .bool false] 29 ?_; intro gb119 hg w66 hbox hb; replace HM_3 := Aside0.mk (MapAt.below (mp_ HM_3) hb); have BK119 := Aside0.mk (hbox); have GW119 := Aside0.mk ((ge_ hg (bw_ HB))); have GE119 := Aside0.mk ((ge_ hg (bw_ HB))); replace HB := Aside0.mk (below_step (bw_ HB) hb); clear hb hbox hg; obtain ⟨hcz67_0, hcz67_1, hcz67_2, hcz67_3, hfz67_0, hfz67_1, hfz67_2, hfz67_3⟩ := zc4_ BK119) | ((with_reducible refine gate_callee (f := 46) rfl ?_); refine gL_ (some 87) Tryd.func46 #[.string ((rd_T29 l0 x80_2).f0)] ?_; (with_reducible refine (impl_upper.calls ((rd_T29 l0 x80_2).f0) t120 true _ A62.out).mono ?_); rintro e w' ⟨rfl, ⟨nd, rfl⟩⟩; refine ⟨_, rfl, ?_⟩) | ((with_reducible refine gate_dst (N := 94) rfl ?_); (try (refine gate_guard (by rfl) ?_; dsimp only)); refine map_look (kkStr Tryd.prog 9 Tryd.underlying9) ekI64 rfl (N := 94) rfl 67 3 _ _ rfl 0 Tryd.underlying67 rfl gm112 x3_1 t120 rfl rfl (show t120.size ≤ 9223372036854775807 from by first | assumption | exact of_eq_true (by assumption) | exact of_decide_eq_true (by assumption) | decide | omega) (mp_ HM_3) ?_; dsimp only [ekI64, ekBool]))
     go_ret
     exact ⟨eR_, bw1_ HB GE119⟩}
     {
     rw [if_neg c65] at H
     have c65b0 : ((mgetD 0 x3_1 t120) == 0) = false := beq_eq_false_iff_ne.mpr c65
     have c65b1 : ((mgetD 0 x3_1 t120) != 0) = true := bne_iff_ne.mpr c65
     have H' := Aside0.mk H
     clear H
     have p118 : 0 ≤ (x80_2 : Int) := dA_
     have q118 : x80_2 < (l0.length : Int) := dA_
     obtain ⟨ad118, e118, hx118_0, hx118_1, hx118_2, hx118_3⟩ := at_T29 HR0.out x80_2 p118 q118
     cases e118
     replace hx118_0 := hX_ HB hx118_0
     replace hx118_1 := hX_ HB hx118_1
     replace hx118_2 := hX_ HB hx118_2
     replace hx118_3 := hX_ HB hx118_3
     replace p118 := eq_true p118
     replace q118 := eq_true q118
     go_wp2_with (first | ((with_reducible refine gate_dst (N := 7) rfl ?_); (try (refine gate_guard (by rfl) ?_; dsimp only)); refine bE_ 7 #[.string (⟨#[]⟩ : ByteArray), .int .i64 0, .string (⟨#[]⟩ : ByteArray), .bool false] 29 ?_; intro gb119 hg w68 hbox hb; replace HM_3 := Aside0.mk (MapAt.below (mp_ HM_3) hb); have BK119 := Aside0.mk (hbox); have GW119 := Aside0.mk ((ge_ hg (bw_ HB))); have GE119 := Aside0.mk ((ge_ hg (bw_ HB))); replace HB := Aside0.mk (below_step (bw_ HB) hb); clear hb hbox hg; obtain ⟨hcz69_0, hcz69_1, hcz69_2, hcz69_3, hfz69_0, hfz69_1, hfz69_2, hfz69_3⟩ := zc4_ BK119) | ((with_reducible refine gate_callee (f := 46) rfl ?_); refine gL_ (some 87) Tryd.func46 #[.string ((rd_T29 l0 x80_2).f0)] ?_; (with_reducible refine (impl_upper.calls ((rd_T29 l0 x80_2).f0) t120 true _ A62.out).mono ?_); rintro e w' ⟨rfl, ⟨nd, rfl⟩⟩; refine ⟨_, rfl, ?_⟩) | ((with_reducible refine gate_dst (N := 94) rfl ?_); (try (refine gate_guard (by rfl) ?_; dsimp only)); refine map_look (kkStr Tryd.prog 9 Tryd.underlying9) ekI64 rfl (N := 94) rfl 67 3 _ _ rfl 0 Tryd.underlying67 rfl gm112 x3_1 t120 rfl rfl (show t120.size ≤ 9223372036854775807 from by first | assumption | exact of_eq_true (by assumption) | exact of_decide_eq_true (by assumption) | decide | omega) (mp_ HM_3) ?_; dsimp only [ekI64, ekBool]))
     go_roundg k2
     case measure => have := HK1.out; have := HK2.out; omega
     case rel => exact ⟨(wrap64 (x80_2 + 1)), (by first | rfl | (simp; done) | (simp [*]; done)), H', ⟨by have := HK1.out; have := HK2.out; omega⟩, ⟨mp_ HM_3⟩, ⟨bw1_ HB GE119⟩⟩}}
     {
     rw [if_neg c64] at H
     exact absurd H (by simp)}}
     {
     replace c63 := Bool.eq_false_iff.mpr c63
     subst c63
     rw [if_neg (show ¬ (false = true) by decide)] at H
     have H' := Aside0.mk H
     clear H
     have p118 : 0 ≤ (x80_2 : Int) := dA_
     have q118 : x80_2 < (l0.length : Int) := dA_
     obtain ⟨ad118, e118, hx118_0, hx118_1, hx118_2, hx118_3⟩ := at_T29 HR0.out x80_2 p118 q118
     cases e118
     replace hx118_0 := hX_ HB hx118_0
     replace hx118_1 := hX_ HB hx118_1
     replace hx118_2 := hX_ HB hx118_2
     replace hx118_3 := hX_ HB hx118_3
     replace p118 := eq_true p118
     replace q118 := eq_true q118
     go_wp2_with (first | ((with_reducible refine gate_dst (N := 7) rfl ?_); (try (refine gate_guard (by rfl) ?_; dsimp only)); refine bE_ 7 #[.string (⟨#[]⟩ : ByteArray), .int .i64 0, .string (⟨#[]⟩ : ByteArray), .bool false] 29 ?_; intro gb119 hg w70 hbox hb; replace HM_3 := Aside0.mk (MapAt.below (mp_ HM_3) hb); have BK119 := Aside0.mk (hbox); have GW119 := Aside0.mk ((ge_ hg (bw_ HB))); have GE119 := Aside0.mk ((ge_ hg (bw_ HB))); replace HB := Aside0.mk (below_step (bw_ HB) hb); clear hb hbox hg; obtain ⟨hcz71_0, hcz71_1, hcz71_2, hcz71_3, hfz71_0, hfz71_1, hfz71_2, hfz71_3⟩ := zc4_ BK119) | ((with_reducible refine gate_callee (f := 46) rfl ?_); refine gL_ (some 87) Tryd.func46 #[.string ((rd_T29 l0 x80_2).f0)] ?_; (with_reducible refine (impl_upper.calls ((rd_T29 l0 x80_2).f0) t120 false _ A62.out).mono ?_); rintro e w' ⟨rfl, ⟨nd, rfl⟩⟩; refine ⟨_, rfl, ?_⟩))
     go_roundg k2
     case measure => have := HK1.out; have := HK2.out; omega
     case rel => exact ⟨(wrap64 (x80_2 + 1)), (by first | rfl | (simp; done) | (simp [*]; done)), H', ⟨by have := HK1.out; have := HK2.out; omega⟩, ⟨mp_ HM_3⟩, ⟨bw1_ HB GE119⟩⟩}}
     {
     rw [if_neg c61] at H
     exact absurd H (by simp)}}
     {
     rw [if_neg c60] at H
     exact absurd H (by simp)}}
     {
     rw [if_neg c59] at H
     have c59b0 := decide_eq_false c59
     clear c59
     obtain rfl := Option.some.inj H
     go_wp2
     go_ret
     exact ⟨eR_, bw_ HB⟩
}}}
def impl_varint.l0 : Nat → List Int → Int → Option (List Int)
 | 0, _, _ => none
 | k + 1, x0, x1 => if x1 > 127 then (if x0.length < 140737488355328 then (impl_varint.l0 k (x0 ++ [(Go.bits .or .i64 (Go.bits .and .i64 x1 127) 128) % 256]) (x1 / 128)) else (none)) else (if x0.length < 140737488355328 then (some (x0 ++ [(x1) % 256])) else (none))
def impl_varint.f (k : Nat) (l0 : List Int) (a1 : Int) : Option (List Int) := impl_varint.l0 k l0 a1
theorem impl_varint.calls (k : Nat) (P0_ : Nat → Prop) (u9000_ : Value) (l0 : List Int) (a1 : Int) (r : List Int) (w0 w : World) (hB : Below w0.heap.size w0 w) (ho0 : Kd.R (Kd.int .u8) 5 w w0.heap.size P0_ u9000_ l0) (h : impl_varint.f k l0 a1 = some r) :
 Calls Tryd.prog 23 #[u9000_, .int .i64 a1] w fun e w' => ∃ v0_ : Value, e = .returned (v0_) ∧ Kd.R (Kd.int .u8) 5 w' w0.heap.size (fun k_ => (P0_ k_ ∨ w.heap.size ≤ k_)) v0_ r ∧ Below w0.heap.size w0 w' ∧ Kept w w' (fun k_ => P0_ k_) := by
 have HO0 := Aside0.mk (show Kd.R (Kd.int .u8) 5 w w0.heap.size (fun k_ => (P0_ k_ ∨ w.heap.size ≤ k_)) u9000_ l0 from Kd.R_mono ho0 (fun k_ hk => (.inl hk)))
 have HK := Aside0.mk (Kept.refl w (fun k_ => P0_ k_))
 have HW0 := Aside0.mk hB.size
 have HB := Aside0.mk hB
 clear hB
 have H : (impl_varint.l0 k l0 a1) = some r := h
 clear h
 have H' := Aside0.mk H
 clear H
 go_enter Tryd.func23, Tryd.ntmps23
 go_wp2
 go_loopg [0, 1] k (fun kq v0 v1 w' => ∃ (x0_1 : List Int) (x1_1 : Int), v1 = .int .i64 x1_1 ∧ Aside0 (impl_varint.l0 kq x0_1 x1_1 = some r) ∧ Aside0 (kq ≤ k) ∧ Aside0 (Kd.R (Kd.int .u8) 5 w' w0.heap.size (fun k_ => (P0_ k_ ∨ w.heap.size ≤ k_)) v0 x0_1) ∧ Aside0 (Kept w w' (fun k_ => P0_ k_)) ∧ Aside0 (Below w0.heap.size w0 w'))
 case atStart => exact ⟨(l0), (a1), (by first | rfl | (simp; done) | (simp [*]; done)), H', ⟨Nat.le_refl _⟩, ⟨kr_ HO0⟩, ⟨by repeat (first | (with_reducible first | exact HK.out | apply Kept.alloc | apply Kept.drewN | apply Kept.drew) | exact HK.out)⟩, ⟨bw_ HB⟩⟩
 case round =>
  clear H'
  try clear c2
  try clear p2
  obtain ⟨x0_1, x1_1, rfl, HA, HK1, HO_0, HK, HB⟩ := hrel
  cases gk with
  | zero => exact absurd HA.out (by simp [impl_varint.l0])
  | succ k1 =>
   have H := HA.out
   clear HA
   simp only [impl_varint.l0] at H
   by_cases c3 : x1_1 > 127
   {
   rw [if_pos c3] at H
   have c3b0 : decide (127 < x1_1) = true := decide_eq_true c3
   clear c3
   by_cases c4 : x0_1.length < 140737488355328
   {
   rw [if_pos c4] at H
   have LMc4 := Aside0.mk c4
   clear c4
   obtain ⟨y122, hy122⟩ : ∃ y_ : List Int, y_ = (x0_1 ++ [(Go.bits .or .i64 (Go.bits .and .i64 x1_1 127) 128) % 256]) := ⟨_, rfl⟩
   replace H : (impl_varint.l0 k1 y122 (x1_1 / 128)) = some r := rH_ hy122 H
   have Ny122 := Aside0.mk hy122
   clear hy122
   have H' := Aside0.mk H
   clear H
   go_wp2_with (first | ((with_reducible refine gate_builtin (b := .append) (xs := #[.tmp 7, .tmp 12]) rfl ?_); at_builtin; refine Kd.R_append (Kd.int .u8) (w0 := w0) w0.heap.size rfl (.tmp 7) (.tmp 12) 22 5 (.int .u8 0) 1 rfl Tryd.underlying22 info5 rfl (by decide) (by omega) u0 x0_1 ((Go.bits .or .i64 (Go.bits .and .i64 x1_1 127) 128) % 256) [.int .u8 ((Go.bits .or .i64 (Go.bits .and .i64 x1_1 127) 128) % 256)] (fun k_ => (P0_ k_ ∨ w.heap.size ≤ k_)) (fun _ => False) rfl rfl ?aP (fun _ hk => hk.elim) ?aF ?aO ?aB ?aS ?aL ?_; (case aP => exact rfl); (case aB => exact (bw_ HB)); (case aF => exact (fun k_ hk => (.inr (Nat.le_trans (by first | exact HK.out.1 | exact (show Kept w _ (fun k_ => P0_ k_) from by repeat (first | (with_reducible first | exact HK.out | apply Kept.alloc | apply Kept.drewN | apply Kept.drew) | exact HK.out)).1) hk)))); (case aO => exact (kr_ HO_0)); (case aS => exact (below_size (bw_ HB))); (case aL => have := LMc4.out; omega); intro v123 w5 ho hb hg hat; rw [← Ny122.out] at ho; replace HB := Aside0.mk (hb); replace HK := Aside0.mk (Kept.of_grown (S := (fun k_ => P0_ k_)) hg (by repeat (first | (with_reducible first | exact HK.out | apply Kept.alloc | apply Kept.drewN | apply Kept.drew) | exact HK.out)) (fun k_ e_ => (HO_0.out.1 k_ e_))); have HO124 := Aside0.mk (ho); clear HO_0; clear ho hb hg hat))
   go_roundg k1
   case measure => have := HK1.out; omega
   case rel => exact ⟨(y122), (x1_1 / 128), (by first | rfl | (simp; done) | (simp [*]; done)), H', ⟨by have := HK1.out; omega⟩, ⟨kr_ HO124⟩, ⟨by repeat (first | (with_reducible first | exact HK.out | apply Kept.alloc | apply Kept.drewN | apply Kept.drew) | exact HK.out)⟩, ⟨bw_ HB⟩⟩}
   {
   rw [if_neg c4] at H
   exact absurd H (by simp)}}
   {
   rw [if_neg c3] at H
   have c3b0 : decide (127 < x1_1) = false := decide_eq_false c3
   clear c3
   by_cases c6 : x0_1.length < 140737488355328
   {
   rw [if_pos c6] at H
   have LMc6 := Aside0.mk c6
   clear c6
   obtain ⟨y125, hy125⟩ : ∃ y_ : List Int, y_ = (x0_1 ++ [(x1_1) % 256]) := ⟨_, rfl⟩
   replace H : (some y125) = some r := rH_ hy125 H
   have Ny125 := Aside0.mk hy125
   clear hy125
   obtain rfl := Option.some.inj H
   go_wp2_with (first | ((with_reducible refine gate_builtin (b := .append) (xs := #[.tmp 16, .tmp 19]) rfl ?_); at_builtin; refine Kd.R_append (Kd.int .u8) (w0 := w0) w0.heap.size rfl (.tmp 16) (.tmp 19) 22 5 (.int .u8 0) 1 rfl Tryd.underlying22 info5 rfl (by decide) (by omega) u0 x0_1 ((x1_1) % 256) [.int .u8 ((x1_1) % 256)] (fun k_ => (P0_ k_ ∨ w.heap.size ≤ k_)) (fun _ => False) rfl rfl ?aP (fun _ hk => hk.elim) ?aF ?aO ?aB ?aS ?aL ?_; (case aP => exact rfl); (case aB => exact (bw_ HB)); (case aF => exact (fun k_ hk => (.inr (Nat.le_trans (by first | exact HK.out.1 | exact (show Kept w _ (fun k_ => P0_ k_) from by repeat (first | (with_reducible first | exact HK.out | apply Kept.alloc | apply Kept.drewN | apply Kept.drew) | exact HK.out)).1) hk)))); (case aO => exact (kr_ HO_0)); (case aS => exact (below_size (bw_ HB))); (case aL => have := LMc6.out; omega); intro v126 w7 ho hb hg hat; rw [← Ny125.out] at ho; replace HB := Aside0.mk (hb); replace HK := Aside0.mk (Kept.of_grown (S := (fun k_ => P0_ k_)) hg (by repeat (first | (with_reducible first | exact HK.out | apply Kept.alloc | apply Kept.drewN | apply Kept.drew) | exact HK.out)) (fun k_ e_ => (HO_0.out.1 k_ e_))); have HO127 := Aside0.mk (ho); clear HO_0; clear ho hb hg hat))
   go_ret
   exact ⟨_, eR_, kr_ HO127, bw_ HB, by repeat (first | (with_reducible first | exact HK.out | apply Kept.alloc | apply Kept.drewN | apply Kept.drew) | exact HK.out)⟩}
   {
   rw [if_neg c6] at H
   exact absurd H (by simp)}}
theorem impl_varint.callsZ (k : Nat) (P0_ : Nat → Prop) (u9000_ : Value) (l0 : List Int) (a1 : Int) (r : List Int) (w0 w : World) (hB : Below w0.heap.size w0 w) (ho0 : Kd.Z (Kd.int .u8) 5 w w0.heap.size P0_ u9000_ l0) (h : impl_varint.f k l0 a1 = some r) :
 Calls Tryd.prog 23 #[u9000_, .int .i64 a1] w fun e w' => ∃ v0_ : Value, e = .returned (v0_) ∧ Kd.R (Kd.int .u8) 5 w' w0.heap.size (fun k_ => (P0_ k_ ∨ w.heap.size ≤ k_)) v0_ r ∧ Below w0.heap.size w0 w' ∧ Kept w w' (fun k_ => P0_ k_) := by
 have HO0 := Aside0.mk (show Kd.Z (Kd.int .u8) 5 w w0.heap.size (fun k_ => (P0_ k_ ∨ w.heap.size ≤ k_)) u9000_ l0 from Kd.Z_mono ho0 (fun k_ hk => (.inl hk)))
 have HK := Aside0.mk (Kept.refl w (fun k_ => P0_ k_))
 have HW0 := Aside0.mk hB.size
 have HB := Aside0.mk hB
 clear hB
 have H : (impl_varint.l0 k l0 a1) = some r := h
 clear h
 have H' := Aside0.mk H
 clear H
 go_enter Tryd.func23, Tryd.ntmps23
 go_wp2
 go_loopg [0, 1] k (fun kq v0 v1 w' => ∃ (x0_1 : List Int) (x1_1 : Int), v1 = .int .i64 x1_1 ∧ Aside0 (impl_varint.l0 kq x0_1 x1_1 = some r) ∧ Aside0 (kq ≤ k) ∧ Aside0 (Kd.Z (Kd.int .u8) 5 w' w0.heap.size (fun k_ => (P0_ k_ ∨ w.heap.size ≤ k_)) v0 x0_1) ∧ Aside0 (Kept w w' (fun k_ => P0_ k_)) ∧ Aside0 (Below w0.heap.size w0 w'))
 case atStart => exact ⟨(l0), (a1), (by first | rfl | (simp; done) | (simp [*]; done)), H', ⟨Nat.le_refl _⟩, ⟨HO0.out⟩, ⟨by repeat (first | (with_reducible first | exact HK.out | apply Kept.alloc | apply Kept.drewN | apply Kept.drew) | exact HK.out)⟩, ⟨bw_ HB⟩⟩
 case round =>
  clear H'
  try clear c2
  try clear p2
  obtain ⟨x0_1, x1_1, rfl, HA, HK1, HO_0, HK, HB⟩ := hrel
  cases gk with
  | zero => exact absurd HA.out (by simp [impl_varint.l0])
  | succ k1 =>
   have H := HA.out
   clear HA
   simp only [impl_varint.l0] at H
   by_cases c3 : x1_1 > 127
   {
   rw [if_pos c3] at H
   have c3b0 : decide (127 < x1_1) = true := decide_eq_true c3
   clear c3
   by_cases c4 : x0_1.length < 140737488355328
   {
   rw [if_pos c4] at H
   have LMc4 := Aside0.mk c4
   clear c4
   obtain ⟨y122, hy122⟩ : ∃ y_ : List Int, y_ = (x0_1 ++ [(Go.bits .or .i64 (Go.bits .and .i64 x1_1 127) 128) % 256]) := ⟨_, rfl⟩
   replace H : (impl_varint.l0 k1 y122 (x1_1 / 128)) = some r := rH_ hy122 H
   have Ny122 := Aside0.mk hy122
   clear hy122
   have H' := Aside0.mk H
   clear H
   go_wp2_with (first | ((with_reducible refine gate_builtin (b := .append) (xs := #[.tmp 7, .tmp 12]) rfl ?_); at_builtin; refine Kd.Z_append (Kd.int .u8) (w0 := w0) w0.heap.size rfl (.tmp 7) (.tmp 12) 22 5 (.int .u8 0) 1 rfl Tryd.underlying22 info5 rfl (by decide) (by omega) u0 x0_1 ((Go.bits .or .i64 (Go.bits .and .i64 x1_1 127) 128) % 256) [.int .u8 ((Go.bits .or .i64 (Go.bits .and .i64 x1_1 127) 128) % 256)] (fun k_ => (P0_ k_ ∨ w.heap.size ≤ k_)) (fun _ => False) rfl rfl ?aP (fun _ hk => hk.elim) ?aF ?aO ?aB ?aS ?aL rfl ?_; (case aP => exact rfl); (case aB => exact (bw_ HB)); (case aF => exact (fun k_ hk => (.inr (Nat.le_trans (by first | exact HK.out.1 | exact (show Kept w _ (fun k_ => P0_ k_) from by repeat (first | (with_reducible first | exact HK.out | apply Kept.alloc | apply Kept.drewN | apply Kept.drew) | exact HK.out)).1) hk)))); (case aO => exact (by (with_reducible repeat (first | apply Kd.R_alloc | apply Kd.R_drewN | apply Kd.R_drew)); exact HO_0.out)); (case aS => exact (below_size (bw_ HB))); (case aL => have := LMc4.out; omega); intro v123 w5 ho hb hg hat; rw [← Ny122.out] at ho; replace HB := Aside0.mk (hb); replace HK := Aside0.mk (Kept.of_grown (S := (fun k_ => P0_ k_)) hg (by repeat (first | (with_reducible first | exact HK.out | apply Kept.alloc | apply Kept.drewN | apply Kept.drew) | exact HK.out)) (fun k_ e_ => (Kd.Z_ok HO_0.out k_ e_))); have HO124 := Aside0.mk (ho); clear HO_0; clear ho hb hg hat))
   go_roundg k1
   case measure => have := HK1.out; omega
   case rel => exact ⟨(y122), (x1_1 / 128), (by first | rfl | (simp; done) | (simp [*]; done)), H', ⟨by have := HK1.out; omega⟩, ⟨Kd.Z_of (by (with_reducible repeat (first | apply Kd.R_alloc | apply Kd.R_drewN | apply Kd.R_drew)); exact HO124.out)⟩, ⟨by repeat (first | (with_reducible first | exact HK.out | apply Kept.alloc | apply Kept.drewN | apply Kept.drew) | exact HK.out)⟩, ⟨bw_ HB⟩⟩}
   {
   rw [if_neg c4] at H
   exact absurd H (by simp)}}
   {
   rw [if_neg c3] at H
   have c3b0 : decide (127 < x1_1) = false := decide_eq_false c3
   clear c3
   by_cases c6 : x0_1.length < 140737488355328
   {
   rw [if_pos c6] at H
   have LMc6 := Aside0.mk c6
   clear c6
   obtain ⟨y125, hy125⟩ : ∃ y_ : List Int, y_ = (x0_1 ++ [(x1_1) % 256]) := ⟨_, rfl⟩
   replace H : (some y125) = some r := rH_ hy125 H
   have Ny125 := Aside0.mk hy125
   clear hy125
   obtain rfl := Option.some.inj H
   go_wp2_with (first | ((with_reducible refine gate_builtin (b := .append) (xs := #[.tmp 16, .tmp 19]) rfl ?_); at_builtin; refine Kd.Z_append (Kd.int .u8) (w0 := w0) w0.heap.size rfl (.tmp 16) (.tmp 19) 22 5 (.int .u8 0) 1 rfl Tryd.underlying22 info5 rfl (by decide) (by omega) u0 x0_1 ((x1_1) % 256) [.int .u8 ((x1_1) % 256)] (fun k_ => (P0_ k_ ∨ w.heap.size ≤ k_)) (fun _ => False) rfl rfl ?aP (fun _ hk => hk.elim) ?aF ?aO ?aB ?aS ?aL rfl ?_; (case aP => exact rfl); (case aB => exact (bw_ HB)); (case aF => exact (fun k_ hk => (.inr (Nat.le_trans (by first | exact HK.out.1 | exact (show Kept w _ (fun k_ => P0_ k_) from by repeat (first | (with_reducible first | exact HK.out | apply Kept.alloc | apply Kept.drewN | apply Kept.drew) | exact HK.out)).1) hk)))); (case aO => exact (by (with_reducible repeat (first | apply Kd.R_alloc | apply Kd.R_drewN | apply Kd.R_drew)); exact HO_0.out)); (case aS => exact (below_size (bw_ HB))); (case aL => have := LMc6.out; omega); intro v126 w7 ho hb hg hat; rw [← Ny125.out] at ho; replace HB := Aside0.mk (hb); replace HK := Aside0.mk (Kept.of_grown (S := (fun k_ => P0_ k_)) hg (by repeat (first | (with_reducible first | exact HK.out | apply Kept.alloc | apply Kept.drewN | apply Kept.drew) | exact HK.out)) (fun k_ e_ => (Kd.Z_ok HO_0.out k_ e_))); have HO127 := Aside0.mk (ho); clear HO_0; clear ho hb hg hat))
   go_ret
   exact ⟨_, eR_, by (with_reducible repeat (first | apply Kd.R_alloc | apply Kd.R_drewN | apply Kd.R_drew)); exact HO127.out, bw_ HB, by repeat (first | (with_reducible first | exact HK.out | apply Kept.alloc | apply Kept.drewN | apply Kept.drew) | exact HK.out)⟩}
   {
   rw [if_neg c6] at H
   exact absurd H (by simp)
}}
def impl_PackTree.l0 : Nat → List Int → List (S29) → Int → Int → Option (List Int)
 | 0, _, _, _, _ => none
 | k + 1, x3, x15, x16, x17 => if x17 < x16 then (if 0 ≤ x17 then (if x17 < (x15.length : Int) then (if (rd_T29 x15 x17).f3 = true then (if x3.length < 140737488355328 then ((impl_varint.f k (x3 ++ [((((rd_T29 x15 x17).f1) % 256) + 16) % 256]) (((rd_T29 x15 x17).f0).size : Int)).bind fun t140 => (if t140.length + ((rd_T29 x15 x17).f0).size < 140737488355328 then ((impl_varint.f k (t140 ++ bytesOf ((rd_T29 x15 x17).f0)) (((rd_T29 x15 x17).f2).size : Int)).bind fun t146 => (if t146.length + ((rd_T29 x15 x17).f2).size < 140737488355328 then (impl_PackTree.l0 k (t146 ++ bytesOf ((rd_T29 x15 x17).f2)) x15 x16 (wrap64 (x17 + 1))) else (none))) else (none))) else (none)) else (if x3.length < 140737488355328 then ((impl_varint.f k (x3 ++ [((rd_T29 x15 x17).f1) % 256]) (((rd_T29 x15 x17).f0).size : Int)).bind fun t155 => (if t155.length + ((rd_T29 x15 x17).f0).size < 140737488355328 then ((impl_varint.f k (t155 ++ bytesOf ((rd_T29 x15 x17).f0)) (((rd_T29 x15 x17).f2).size : Int)).bind fun t161 => (if t161.length + ((rd_T29 x15 x17).f2).size < 140737488355328 then (impl_PackTree.l0 k (t161 ++ bytesOf ((rd_T29 x15 x17).f2)) x15 x16 (wrap64 (x17 + 1))) else (none))) else (none))) else (none))) else (none)) else (none)) else (some x3)
def impl_PackTree.f (k : Nat) (l0 : List (S29)) : Option (List Int) := (impl_TreeOk.f k l0).bind fun t128 => (if t128 = true then ((impl_varint.f k (([76, 65, 82, 49] : List Int)) (l0.length : Int)).bind fun t132 => (impl_PackTree.l0 k t132 l0 (l0.length : Int) 0)) else (some ([] : List Int)))
def impl_PackTree.T10 : Bool × List (List Nat × List Nat) := (true, [([], []), ([], []), ([1], [1]), ([0, 2], [0, 2]), ([], []), ([4], [4]), ([5], [5]), ([3, 6, 3], [3, 6]), ([], []), ([8], [8]), ([7, 9, 7], [7, 9]), ([10, 10, 0, 1, 2, 3, 4, 5, 6, 7, 8, 9, 10], [0, 10])])
def impl_PackTree.B10 : List Nat := [0, 0, 2, 7, 0, 16, 48, 127, 0, 256, 1023, 2047]
theorem impl_PackTree.tab10 : rtab .any (opsOf Tryd.f6 10) = impl_PackTree.T10 := by kernel_rfl
theorem impl_PackTree.bits10 : waitsOk impl_PackTree.T10.2 impl_PackTree.B10 = true := by kernel_rfl
def impl_PackTree.T11 : Bool × List (List Nat × List Nat) := (true, [([], []), ([], []), ([1], [1]), ([2], [2]), ([0, 3], [0, 3]), ([], []), ([5], [5]), ([4, 6, 4], [4, 6]), ([7, 7, 0, 1, 2, 3, 4, 5, 6, 7], [0, 7])])
def impl_PackTree.B11 : List Nat := [0, 0, 2, 6, 15, 0, 32, 127, 255]
theorem impl_PackTree.tab11 : rtab .any (opsOf Tryd.f6 11) = impl_PackTree.T11 := by kernel_rfl
theorem impl_PackTree.bits11 : waitsOk impl_PackTree.T11.2 impl_PackTree.B11 = true := by kernel_rfl
theorem impl_PackTree.calls (k : Nat) (A0 : Option Addr) (c0 : Nat) (l0 : List (S29)) (r : List Int) (w : World) (hE : EnvW w) (hr0 : Kd.C k29 w A0 l0.length l0) (hc0 : l0.length ≤ c0) (h : impl_PackTree.f k l0 = some r) :
 Calls Tryd.prog 6 #[.slice A0 l0.length c0] w fun e w' => ∃ v0_ : Value, e = .returned (v0_) ∧ Kd.R (Kd.int .u8) 5 w' w.heap.size (fun _ => True) v0_ r ∧ Below w.heap.size w w' := by
 have hu29 := Tryd.underlying29
 have HE := Aside0.mk hE
 clear hE
 have HR0 := Aside0.mk hr0
 have HC0 := Aside0.mk hc0
 clear hr0 hc0
 have HB := Aside0.mk (Below.refl w.heap.size w)
 have H : ((impl_TreeOk.f k l0).bind fun t128 => (if t128 = true then ((impl_varint.f k (([76, 65, 82, 49] : List Int)) (l0.length : Int)).bind fun t132 => (impl_PackTree.l0 k t132 l0 (l0.length : Int) 0)) else (some ([] : List Int)))) = some r := h
 clear h
 replace H := Option.bind_eq_some_iff.mp H
 obtain ⟨t128, A20, H⟩ := H
 have A2 := Aside0.mk A20
 clear A20
 by_cases c3 : t128 = true
 {
 subst c3
 rw [if_pos rfl] at H
 obtain ⟨y129, hy129⟩ : ∃ y_ : List Int, y_ = (([76, 65, 82, 49] : List Int)) := ⟨_, rfl⟩
 replace H : ((impl_varint.f k y129 (l0.length : Int)).bind fun t132 => (impl_PackTree.l0 k t132 l0 (l0.length : Int) 0)) = some r := rH_ hy129 H
 have Ny129 := Aside0.mk hy129
 clear hy129
 replace H := Option.bind_eq_some_iff.mp H
 obtain ⟨t132, A40, H⟩ := H
 have A4 := Aside0.mk A40
 clear A40
 have H' := Aside0.mk H
 clear H
 go_enter Tryd.func6, Tryd.ntmps6
 go_wp2_with (first | ((with_reducible refine gate_callee (f := 22) rfl ?_); refine gL_ (some 8) Tryd.func22 #[.slice A0 l0.length c0] ?_; (with_reducible refine (impl_TreeOk.calls k _ _ l0 true _ ?side1 ?side2 ?side3 A2.out).mono ?_); (case side1 => refine EnvW.below HE.out ?_; exact bw_ HB); (case side2 => exact cc_ HR0); (case side3 => exact HC0.out); rintro e w5 ⟨rfl, hb⟩; refine ⟨_, rfl, ?_⟩; replace HB := Aside0.mk (below_step (bw_ HB) hb); clear hb) | ((with_reducible refine gate_dst (N := 10) rfl ?_); refine Kd.Z_litc (Kd.int .u8) _ 5 ?hg (N := 10) ?hd (xs := ([76, 65, 82, 49] : List Int)) (inner := [.int .u8 76, .int .u8 65, .int .u8 82, .int .u8 49]) (ok := fun _ => True) (okp := fun _ => True) ?hr ?hp (fun _ hk => hk) trivial (Below.refl _ _) (Nat.le_refl _) (by simp) rfl rfl 22 rfl Tryd.underlying22 Tryd.underlying5 ?hev ?_; (case hev => intro u_; rfl); (case hd => rfl); (case hg => rfl); (case hr => first | (go_simp; done) | (go_simp; rfl)); (case hp => exact (Reps.one (show Kd.M (Kd.int .u8) _ _ _ 76 [.int .u8 76] from rfl) (Reps.one (show Kd.M (Kd.int .u8) _ _ _ 65 [.int .u8 65] from rfl) (Reps.one (show Kd.M (Kd.int .u8) _ _ _ 82 [.int .u8 82] from rfl) (Reps.one (show Kd.M (Kd.int .u8) _ _ _ 49 [.int .u8 49] from rfl) (Reps.none _ _)))))); intro v130 w6 ho7 hb hg_ hnew_; clear hg_ hnew_; (first | rw [← Ny129.out] at ho7 | (simp only [Int.reduceToNat] at ho7; rw [← Ny129.out] at ho7)); have HO131 := Aside0.mk (Kd.Z_lower ho7 (below_size (bw_ HB))); replace HB := Aside0.mk (below_step (bw_ HB) hb); clear hb ho7; obtain ⟨Ao8, co8, eo8⟩ := Kd.Z_slice HO131.out; subst eo8) | ((with_reducible refine gate_callee (f := 23) rfl ?_); refine gL_ (some 14) Tryd.func23 #[.slice Ao8 y129.length co8, .int .i64 (l0.length : Int)] ?_; (with_reducible refine (impl_varint.callsZ k (fun k_ => some k_ = (.slice Ao8 y129.length co8 : Value).ownBlock) (.slice Ao8 y129.length co8) y129 (l0.length : Int) t132 w _ ?side1 ?side2 A4.out).mono ?_); (case side1 => exact bw_ HB); (case side2 => exact Kd.Z_tight rfl HO131.out); rintro e w9 ⟨v133, rfl, ho0, hb, hkp⟩; refine ⟨_, rfl, ?_⟩; have HO134 := Aside0.mk (Kd.R_mono (ok' := fun k_ => True) ho0 (fun k_ hk_ => trivial)); replace HB := Aside0.mk (hb); clear HO131; (try clear hb); (try clear hkp); (try clear ho0)))
 go_loopg [3, 17] k (fun kq v3 v17 w' => ∃ (x3_1 : List Int) (x17_1 : Int), v17 = .int .i64 x17_1 ∧ Aside0 (impl_PackTree.l0 kq x3_1 l0 (l0.length : Int) x17_1 = some r) ∧ Aside0 (kq ≤ k) ∧ Aside0 (Kd.R (Kd.int .u8) 5 w' w.heap.size (fun _ => True) v3 x3_1) ∧ Aside0 (Below w.heap.size w w'))
 case atStart => exact ⟨(t132), (0), (by first | rfl | (simp; done) | (simp [*]; done)), H', ⟨Nat.le_refl _⟩, ⟨kr_ HO134⟩, ⟨bw_ HB⟩⟩
 case round =>
  clear H'
  try clear c2
  try clear p2
  try clear c3
  try clear c6
  obtain ⟨x3_1, x17_1, rfl, HA, HK1, HO_3, HB⟩ := hrel
  cases gk with
  | zero => exact absurd HA.out (by simp [impl_PackTree.l0])
  | succ k1 =>
   have H := HA.out
   clear HA
   simp only [impl_PackTree.l0] at H
   by_cases c10 : x17_1 < (l0.length : Int)
   {
   rw [if_pos c10] at H
   have c10b0 := decide_eq_true c10
   clear c10
   by_cases c11 : 0 ≤ x17_1
   {
   rw [if_pos c11] at H
   have c11b0 := decide_eq_true c11
   clear c11
   by_cases c12 : x17_1 < (l0.length : Int)
   {
   rw [if_pos c12] at H
   have c12b0 := decide_eq_true c12
   clear c12
   obtain ⟨bq13, hbq13⟩ : ∃ b_ : Bool, b_ = ((rd_T29 l0 x17_1).f3) := ⟨_, rfl⟩
   replace H : (if bq13 = true then (if x3_1.length < 140737488355328 then ((impl_varint.f k1 (x3_1 ++ [((((rd_T29 l0 x17_1).f1) % 256) + 16) % 256]) (((rd_T29 l0 x17_1).f0).size : Int)).bind fun t140 => (if t140.length + ((rd_T29 l0 x17_1).f0).size < 140737488355328 then ((impl_varint.f k1 (t140 ++ bytesOf ((rd_T29 l0 x17_1).f0)) (((rd_T29 l0 x17_1).f2).size : Int)).bind fun t146 => (if t146.length + ((rd_T29 l0 x17_1).f2).size < 140737488355328 then (impl_PackTree.l0 k1 (t146 ++ bytesOf ((rd_T29 l0 x17_1).f2)) l0 (l0.length : Int) (wrap64 (x17_1 + 1))) else (none))) else (none))) else (none)) else (if x3_1.length < 140737488355328 then ((impl_varint.f k1 (x3_1 ++ [((rd_T29 l0 x17_1).f1) % 256]) (((rd_T29 l0 x17_1).f0).size : Int)).bind fun t155 => (if t155.length + ((rd_T29 l0 x17_1).f0).size < 140737488355328 then ((impl_varint.f k1 (t155 ++ bytesOf ((rd_T29 l0 x17_1).f0)) (((rd_T29 l0 x17_1).f2).size : Int)).bind fun t161 => (if t161.length + ((rd_T29 l0 x17_1).f2).size < 140737488355328 then (impl_PackTree.l0 k1 (t161 ++ bytesOf ((rd_T29 l0 x17_1).f2)) l0 (l0.length : Int) (wrap64 (x17_1 + 1))) else (none))) else (none))) else (none))) = some r := by rw [← hbq13] at H; exact H
   have Nbq13 := Aside0.mk hbq13
   clear hbq13
   by_cases c14 : bq13 = true
   {
   subst c14
   rw [if_pos rfl] at H
   by_cases c15 : x3_1.length < 140737488355328
   {
   rw [if_pos c15] at H
   have LMc15 := Aside0.mk c15
   clear c15
   obtain ⟨y137, hy137⟩ : ∃ y_ : List Int, y_ = (x3_1 ++ [((((rd_T29 l0 x17_1).f1) % 256) + 16) % 256]) := ⟨_, rfl⟩
   replace H : ((impl_varint.f k1 y137 (((rd_T29 l0 x17_1).f0).size : Int)).bind fun t140 => (if t140.length + ((rd_T29 l0 x17_1).f0).size < 140737488355328 then ((impl_varint.f k1 (t140 ++ bytesOf ((rd_T29 l0 x17_1).f0)) (((rd_T29 l0 x17_1).f2).size : Int)).bind fun t146 => (if t146.length + ((rd_T29 l0 x17_1).f2).size < 140737488355328 then (impl_PackTree.l0 k1 (t146 ++ bytesOf ((rd_T29 l0 x17_1).f2)) l0 (l0.length : Int) (wrap64 (x17_1 + 1))) else (none))) else (none))) = some r := rH_ hy137 H
   have Ny137 := Aside0.mk hy137
   clear hy137
   replace H := Option.bind_eq_some_iff.mp H
   obtain ⟨t140, A160, H⟩ := H
   have A16 := Aside0.mk A160
   clear A160
   by_cases c17 : t140.length + ((rd_T29 l0 x17_1).f0).size < 140737488355328
   {
   rw [if_pos c17] at H
   have LMc17 := Aside0.mk c17
   clear c17
   obtain ⟨y143, hy143⟩ : ∃ y_ : List Int, y_ = (t140 ++ bytesOf ((rd_T29 l0 x17_1).f0)) := ⟨_, rfl⟩
   replace H : ((impl_varint.f k1 y143 (((rd_T29 l0 x17_1).f2).size : Int)).bind fun t146 => (if t146.length + ((rd_T29 l0 x17_1).f2).size < 140737488355328 then (impl_PackTree.l0 k1 (t146 ++ bytesOf ((rd_T29 l0 x17_1).f2)) l0 (l0.length : Int) (wrap64 (x17_1 + 1))) else (none))) = some r := rH_ hy143 H
   have Ny143 := Aside0.mk hy143
   clear hy143
   replace H := Option.bind_eq_some_iff.mp H
   obtain ⟨t146, A180, H⟩ := H
   have A18 := Aside0.mk A180
   clear A180
   by_cases c19 : t146.length + ((rd_T29 l0 x17_1).f2).size < 140737488355328
   {
   rw [if_pos c19] at H
   have LMc19 := Aside0.mk c19
   clear c19
   obtain ⟨y149, hy149⟩ : ∃ y_ : List Int, y_ = (t146 ++ bytesOf ((rd_T29 l0 x17_1).f2)) := ⟨_, rfl⟩
   replace H : (impl_PackTree.l0 k1 y149 l0 (l0.length : Int) (wrap64 (x17_1 + 1))) = some r := rH_ hy149 H
   have Ny149 := Aside0.mk hy149
   clear hy149
   have H' := Aside0.mk H
   clear H
   have p135 : 0 ≤ (x17_1 : Int) := dA_
   have q135 : x17_1 < (l0.length : Int) := dA_
   obtain ⟨ad135, e135, hx135_0, hx135_1, hx135_2, hx135_3⟩ := at_T29 HR0.out x17_1 p135 q135
   (try rw [← Nbq13.out] at hx135_3)
   cases e135
   replace hx135_0 := hX_ HB hx135_0
   replace hx135_1 := hX_ HB hx135_1
   replace hx135_2 := hX_ HB hx135_2
   replace hx135_3 := hX_ HB hx135_3
   replace p135 := eq_true p135
   replace q135 := eq_true q135
   try go_wp2_with (first | ((with_reducible refine gate_dst (N := 5) rfl ?_); refine bE_ 5 #[.string (⟨#[]⟩ : ByteArray), .int .i64 0, .string (⟨#[]⟩ : ByteArray), .bool false] 29 ?_; intro gb136 hg w20 hbox hb; replace HO_3 := Aside0.mk (Kd.R_below (kr_ HO_3) hb); have BK136 := Aside0.mk (hbox); have GW136 := Aside0.mk ((ge_ hg (bw_ HB))); have GE136 := Aside0.mk ((ge_ hg (bw_ HB))); replace HB := Aside0.mk (below_step (bw_ HB) hb); clear hb hbox hg; obtain ⟨hcz21_0, hcz21_1, hcz21_2, hcz21_3, hfz21_0, hfz21_1, hfz21_2, hfz21_3⟩ := zc4_ BK136))
   have n0_ : Aside0 (Kd.R (Kd.int .u8) 5 ((((w20.setCell ⟨gb136, 0, none⟩ (.string ((rd_T29 l0 x17_1).f0))).setCell ⟨gb136, 1, none⟩ (.int .i64 ((rd_T29 l0 x17_1).f1))).setCell ⟨gb136, 2, none⟩ (.string ((rd_T29 l0 x17_1).f2))).setCell ⟨gb136, 3, none⟩ (.bool true)) w.heap.size (fun _ => True) u3 x3_1) := ⟨by (with_reducible repeat (first | apply Kd.R_alloc | apply Kd.R_drewN | apply Kd.R_drew)); exact Kd.R_mono (Kd.R_far (p := ⟨gb136, 3, none⟩) (Kd.R_far (p := ⟨gb136, 2, none⟩) (Kd.R_far (p := ⟨gb136, 1, none⟩) (Kd.R_far (p := ⟨gb136, 0, none⟩) (Kd.R_types HO_3.out BK136.out (by decide)) (fun _ hk => hk.2) (.string ((rd_T29 l0 x17_1).f0))) (fun _ hk => hk.2) (.int .i64 ((rd_T29 l0 x17_1).f1))) (fun _ hk => hk.2) (.string ((rd_T29 l0 x17_1).f2))) (fun _ hk => hk.2) (.bool true)) (fun _ hk => trivial)⟩
   have n1_ : Aside0 (((((w20.setCell ⟨gb136, 0, none⟩ (.string ((rd_T29 l0 x17_1).f0))).setCell ⟨gb136, 1, none⟩ (.int .i64 ((rd_T29 l0 x17_1).f1))).setCell ⟨gb136, 2, none⟩ (.string ((rd_T29 l0 x17_1).f2))).setCell ⟨gb136, 3, none⟩ (.bool true)).heap[gb136]? = some (.cells #[.string ((rd_T29 l0 x17_1).f0), .int .i64 ((rd_T29 l0 x17_1).f1), .string ((rd_T29 l0 x17_1).f2), .bool true] 29 (0, 0))) := ⟨by (with_reducible repeat (first | refine blk_drewN ?_ _ | refine blk_drew ?_ | refine blk_alloc ?_ _)); refine blk_put (cs := #[.string ((rd_T29 l0 x17_1).f0), .int .i64 ((rd_T29 l0 x17_1).f1), .string ((rd_T29 l0 x17_1).f2), .bool false]) ?_ 3 _ rfl; (with_reducible repeat (first | refine blk_drewN ?_ _ | refine blk_drew ?_ | refine blk_alloc ?_ _)); refine blk_put (cs := #[.string ((rd_T29 l0 x17_1).f0), .int .i64 ((rd_T29 l0 x17_1).f1), .string (⟨#[]⟩ : ByteArray), .bool false]) ?_ 2 _ rfl; (with_reducible repeat (first | refine blk_drewN ?_ _ | refine blk_drew ?_ | refine blk_alloc ?_ _)); refine blk_put (cs := #[.string ((rd_T29 l0 x17_1).f0), .int .i64 0, .string (⟨#[]⟩ : ByteArray), .bool false]) ?_ 1 _ rfl; (with_reducible repeat (first | refine blk_drewN ?_ _ | refine blk_drew ?_ | refine blk_alloc ?_ _)); refine blk_put (cs := #[.string (⟨#[]⟩ : ByteArray), .int .i64 0, .string (⟨#[]⟩ : ByteArray), .bool false]) ?_ 0 _ rfl; exact bk_ BK136⟩
   have n2_ : Aside0 (Below w.heap.size w ((((w20.setCell ⟨gb136, 0, none⟩ (.string ((rd_T29 l0 x17_1).f0))).setCell ⟨gb136, 1, none⟩ (.int .i64 ((rd_T29 l0 x17_1).f1))).setCell ⟨gb136, 2, none⟩ (.string ((rd_T29 l0 x17_1).f2))).setCell ⟨gb136, 3, none⟩ (.bool true))) := ⟨bw1_ HB GE136⟩
   (try rw [← Nbq13.out])
   (try clear HO_3)
   (try clear BK136)
   (try clear HB)
   generalize ((((w20.setCell ⟨gb136, 0, none⟩ (.string ((rd_T29 l0 x17_1).f0))).setCell ⟨gb136, 1, none⟩ (.int .i64 ((rd_T29 l0 x17_1).f1))).setCell ⟨gb136, 2, none⟩ (.string ((rd_T29 l0 x17_1).f2))).setCell ⟨gb136, 3, none⟩ (.bool true)) = w22 at n0_ n1_ n2_ ⊢
   have HO_3 := n0_
   have BK136 := n1_
   have HB := n2_
   clear n0_ n1_ n2_
   replace HO_3 := Aside0.mk (Kd.R_drew HO_3.out)
   replace BK136 := Aside0.mk (blk_drew BK136.out)
   replace HB := Aside0.mk (below_drew1 HB.out)
   refine start_ (n := 12) (S := fun w' => w'.cell? ⟨gb136, 0, none⟩ = some (.string ((rd_T29 l0 x17_1).f0)) ∧ w'.cell? ⟨gb136, 1, none⟩ = some (.int .i64 ((rd_T29 l0 x17_1).f1)) ∧ w'.cell? ⟨gb136, 2, none⟩ = some (.string ((rd_T29 l0 x17_1).f2)) ∧ w'.cell? ⟨gb136, 3, none⟩ = some (.bool true)) (ds := []) (bs_ 12 0) (by kernel_rfl) rfl (by kernel_rfl) ⟨(blk_cell BK136.out 0).trans rfl, (blk_cell BK136.out 1).trans rfl, (blk_cell BK136.out 2).trans rfl, (blk_cell BK136.out 3).trans rfl⟩ (fun hHeld => ?_); refine with_tabW impl_PackTree.tab10 impl_PackTree.bits10 (fun HT_ HW_ => ?_)
   generalize w22.drew = w23 at HO_3 BK136 HB hHeld ⊢
   refine pS_ 0 ?_
   refine pS_ 1 ?_
   refine pS_ 4 ?_
   refine pS_ 8 ?_
   refine t4_ 5 hHeld ?_
   refine pS_ 6 ?_
   refine t4_ 9 hHeld ?_
   refine oS_ 2 (fun K hK => ?_)
   refine value_ (w1 := ?_) (v := ?_) (by rfl) rfl ?_ ?_
   rotate_left 2
   {
   go_simp
   constructor
   {
   rfl}
   {
   rfl}}
   refine hK.out _ _ ⟨(blk_cell (blk_alloc BK136.out _) 0).trans rfl, (blk_cell (blk_alloc BK136.out _) 1).trans rfl, (blk_cell (blk_alloc BK136.out _) 2).trans rfl, (blk_cell (blk_alloc BK136.out _) 3).trans rfl⟩ (fun hHeld => ?_)
   clear hK K
   refine nS_ 30 ?_
   refine oS_ 3 (fun K hK => ?_)
   refine Kd.R_append_step (Kd.int .u8) (w0 := w) w.heap.size (by rfl) (.tmp 28) (.tmp 30) 22 5 (.int .u8 0) 1 rfl Tryd.underlying22 info5 rfl (by decide) (by omega) u3 x3_1 ((((rd_T29 l0 x17_1).f1) + 16) % 256) [.int .u8 ((((rd_T29 l0 x17_1).f1) + 16) % 256)] (fun _ => True) (fun _ => False) rfl rfl ?aP (fun _ hk => hk.elim) ?aF ?aO ?aB ?aS ?aL ?_
   (case aP => exact rfl)
   (case aB => exact (bw1_ HB GE136))
   (case aF => exact (fun _ _ => trivial))
   (case aO => exact (kr_ HO_3))
   (case aS => exact (below_size (bw1_ HB GE136)))
   (case aL => have := LMc15.out; omega)
   intro v138 w24 ho hb hg hat
   (try simp only [Int.emod_add_emod] at Ny137)
   rw [← Ny137.out] at ho
   replace BK136 := Aside0.mk (blk_grown (g := gb136) (o := .cells #[.string ((rd_T29 l0 x17_1).f0), .int .i64 ((rd_T29 l0 x17_1).f1), .string ((rd_T29 l0 x17_1).f2), .bool true] 29 (0, 0)) (bk_ BK136) hg (Kd.R_ne HO_3.out BK136.out (by decide)))
   replace HB := Aside0.mk (hb)
   have HO139 := Aside0.mk (ho)
   clear HO_3
   clear ho hb hg hat
   obtain ⟨Ao25, co25, eo25⟩ := Kd.R_slice HO139.out
   (first | subst eo25 | (injection eo25 with f1_ f2_ f3_; have f4_ := f1_.symm; have f5_ := f3_.symm; clear f1_ f2_ f3_; subst f4_; subst f5_))
   refine hK.out _ _ ⟨(blk_cell BK136.out 0).trans rfl, (blk_cell BK136.out 1).trans rfl, (blk_cell BK136.out 2).trans rfl, (blk_cell BK136.out 3).trans rfl⟩ (fun hHeld => ?_)
   clear hK K
   refine nS_ 31 ?_
   refine oS_ 7 (fun K hK => ?_)
   refine gS_ Tryd.func23 #[.slice Ao25 y137.length co25, .int .i64 (((rd_T29 l0 x17_1).f0).size : Int)] ?_
   with_reducible refine (impl_varint.calls k1 (fun k_ => some k_ = (.slice Ao25 y137.length co25 : Value).ownBlock) (.slice Ao25 y137.length co25) y137 (((rd_T29 l0 x17_1).f0).size : Int) t140 w _ ?side1 ?side2 A16.out).mono ?_
   (case side1 => exact bw1_ HB GE136)
   (case side2 => exact Kd.R_tight rfl HO139.out)
   rintro e w26 ⟨v141, rfl, ho0, hb, hkp⟩
   refine ⟨_, rfl, ?_⟩
   replace BK136 := Aside0.mk (blk_kept (bk_ BK136) hkp (fun hs_ => (fun e_ => (Kd.R_ne HO139.out BK136.out (by decide)) e_) hs_))
   have HO142 := Aside0.mk (Kd.R_mono (ok' := fun k_ => True) ho0 (fun k_ hk_ => trivial))
   replace HB := Aside0.mk (hb)
   clear HO139
   (try clear hb)
   (try clear hkp)
   (try clear ho0)
   refine hK.out _ _ ⟨(blk_cell BK136.out 0).trans rfl, (blk_cell BK136.out 1).trans rfl, (blk_cell BK136.out 2).trans rfl, (blk_cell BK136.out 3).trans rfl⟩ (fun hHeld => ?_)
   clear hK K
   refine nS_ 35 ?_
   refine oS_ 10 (fun K hK => ?_)
   refine print_append_str_step (w0 := w) w.heap.size (by rfl) (.tmp 35) _ 22 9 5 rfl Tryd.underlying22 Tryd.underlying9 info5 v141 t140 ((rd_T29 l0 x17_1).f0) rfl rfl ?aO ?aB ?aS ?aL ?_
   (case aB => exact (bw1_ HB GE136))
   (case aO => exact (Kd.own_of_R (kr_ HO142)))
   (case aS => exact (below_size (bw1_ HB GE136)))
   (case aL => have := LMc17.out; omega)
   intro v144 w27 ho0 hb hg
   have ho := Kd.R_of_own (h1 := fun _ => rfl) (ok := fun _ => True) ho0 (fun _ _ => trivial)
   clear ho0
   have hat := True.intro
   rw [← Ny143.out] at ho
   change Kd.R (Kd.int .u8) 5 w27 w.heap.size (fun _ => True) v144 y143 at ho
   replace BK136 := Aside0.mk (blk_grown (g := gb136) (o := .cells #[.string ((rd_T29 l0 x17_1).f0), .int .i64 ((rd_T29 l0 x17_1).f1), .string ((rd_T29 l0 x17_1).f2), .bool true] 29 (0, 0)) (bk_ BK136) hg (Kd.R_ne HO142.out BK136.out (by decide)))
   replace HB := Aside0.mk (hb)
   have HO145 := Aside0.mk (ho)
   clear HO142
   clear ho hb hg hat
   refine hK.out _ _ ⟨(blk_cell BK136.out 0).trans rfl, (blk_cell BK136.out 1).trans rfl, (blk_cell BK136.out 2).trans rfl, (blk_cell BK136.out 3).trans rfl⟩ (fun hHeld => ?_)
   clear hK K
   refine nS_ 38 ?_
   refine pS_ 11 ?_
   refine done_ (done_of HT_.out (by kernel_rfl)) ?_
   try go_wp2
   replace HO145 := Aside0.mk (Kd.R_drew HO145.out)
   replace BK136 := Aside0.mk (blk_drew BK136.out)
   replace HB := Aside0.mk (below_drew1 HB.out)
   obtain ⟨Ao29, co29, eo29⟩ := Kd.R_slice HO145.out
   (first | subst eo29 | (injection eo29 with f1_ f2_ f3_; have f4_ := f1_.symm; have f5_ := f3_.symm; clear f1_ f2_ f3_; subst f4_; subst f5_))
   refine start_ (n := 9) (S := fun w' => w'.cell? ⟨gb136, 0, none⟩ = some (.string ((rd_T29 l0 x17_1).f0)) ∧ w'.cell? ⟨gb136, 1, none⟩ = some (.int .i64 ((rd_T29 l0 x17_1).f1)) ∧ w'.cell? ⟨gb136, 2, none⟩ = some (.string ((rd_T29 l0 x17_1).f2)) ∧ w'.cell? ⟨gb136, 3, none⟩ = some (.bool true)) (ds := []) (bs_ 9 0) (by kernel_rfl) rfl (by kernel_rfl) ⟨(blk_cell BK136.out 0).trans rfl, (blk_cell BK136.out 1).trans rfl, (blk_cell BK136.out 2).trans rfl, (blk_cell BK136.out 3).trans rfl⟩ (fun hHeld => ?_); refine with_tabW impl_PackTree.tab11 impl_PackTree.bits11 (fun HT_ HW_ => ?_)
   generalize w27.drew = w28 at HO145 BK136 HB hHeld ⊢
   refine pS_ 0 ?_
   refine pS_ 1 ?_
   refine pS_ 5 ?_
   refine t4_ 2 hHeld ?_
   refine pS_ 3 ?_
   refine t4_ 6 hHeld ?_
   refine oS_ 4 (fun K hK => ?_)
   refine gS_ Tryd.func23 #[.slice Ao29 y143.length co29, .int .i64 (((rd_T29 l0 x17_1).f2).size : Int)] ?_
   with_reducible refine (impl_varint.calls k1 (fun k_ => some k_ = (.slice Ao29 y143.length co29 : Value).ownBlock) (.slice Ao29 y143.length co29) y143 (((rd_T29 l0 x17_1).f2).size : Int) t146 w _ ?side1 ?side2 A18.out).mono ?_
   (case side1 => exact bw1_ HB GE136)
   (case side2 => exact Kd.R_tight rfl HO145.out)
   rintro e w30 ⟨v147, rfl, ho0, hb, hkp⟩
   refine ⟨_, rfl, ?_⟩
   replace BK136 := Aside0.mk (blk_kept (bk_ BK136) hkp (fun hs_ => (fun e_ => (Kd.R_ne HO145.out BK136.out (by decide)) e_) hs_))
   have HO148 := Aside0.mk (Kd.R_mono (ok' := fun k_ => True) ho0 (fun k_ hk_ => trivial))
   replace HB := Aside0.mk (hb)
   clear HO145
   (try clear hb)
   (try clear hkp)
   (try clear ho0)
   refine hK.out _ _ ⟨(blk_cell BK136.out 0).trans rfl, (blk_cell BK136.out 1).trans rfl, (blk_cell BK136.out 2).trans rfl, (blk_cell BK136.out 3).trans rfl⟩ (fun hHeld => ?_)
   clear hK K
   refine nS_ 43 ?_
   refine oS_ 7 (fun K hK => ?_)
   refine print_append_str_step (w0 := w) w.heap.size (by rfl) (.tmp 43) _ 22 9 5 rfl Tryd.underlying22 Tryd.underlying9 info5 v147 t146 ((rd_T29 l0 x17_1).f2) rfl rfl ?aO ?aB ?aS ?aL ?_
   (case aB => exact (bw1_ HB GE136))
   (case aO => exact (Kd.own_of_R (kr_ HO148)))
   (case aS => exact (below_size (bw1_ HB GE136)))
   (case aL => have := LMc19.out; omega)
   intro v150 w31 ho0 hb hg
   have ho := Kd.R_of_own (h1 := fun _ => rfl) (ok := fun _ => True) ho0 (fun _ _ => trivial)
   clear ho0
   have hat := True.intro
   rw [← Ny149.out] at ho
   change Kd.R (Kd.int .u8) 5 w31 w.heap.size (fun _ => True) v150 y149 at ho
   replace BK136 := Aside0.mk (blk_grown (g := gb136) (o := .cells #[.string ((rd_T29 l0 x17_1).f0), .int .i64 ((rd_T29 l0 x17_1).f1), .string ((rd_T29 l0 x17_1).f2), .bool true] 29 (0, 0)) (bk_ BK136) hg (Kd.R_ne HO148.out BK136.out (by decide)))
   replace HB := Aside0.mk (hb)
   have HO151 := Aside0.mk (ho)
   clear HO148
   clear ho hb hg hat
   refine hK.out _ _ ⟨(blk_cell BK136.out 0).trans rfl, (blk_cell BK136.out 1).trans rfl, (blk_cell BK136.out 2).trans rfl, (blk_cell BK136.out 3).trans rfl⟩ (fun hHeld => ?_)
   clear hK K
   refine nS_ 46 ?_
   refine pS_ 8 ?_
   refine done_ (done_of HT_.out (by kernel_rfl)) ?_
   try go_wp2
   go_roundg k1
   case measure => have := HK1.out; omega
   case rel => exact ⟨(y149), (wrap64 (x17_1 + 1)), (by first | rfl | (simp; done) | (simp [*]; done)), H', ⟨by have := HK1.out; omega⟩, ⟨kr_ HO151⟩, ⟨bw1_ HB GE136⟩⟩}
   {
   rw [if_neg c19] at H
   exact absurd H (by simp)}}
   {
   rw [if_neg c17] at H
   exact absurd H (by simp)}}
   {
   rw [if_neg c15] at H
   exact absurd H (by simp)}}
   {
   replace c14 := Bool.eq_false_iff.mpr c14
   subst c14
   rw [if_neg (show ¬ (false = true) by decide)] at H
   by_cases c32 : x3_1.length < 140737488355328
   {
   rw [if_pos c32] at H
   have LMc32 := Aside0.mk c32
   clear c32
   obtain ⟨y152, hy152⟩ : ∃ y_ : List Int, y_ = (x3_1 ++ [((rd_T29 l0 x17_1).f1) % 256]) := ⟨_, rfl⟩
   replace H : ((impl_varint.f k1 y152 (((rd_T29 l0 x17_1).f0).size : Int)).bind fun t155 => (if t155.length + ((rd_T29 l0 x17_1).f0).size < 140737488355328 then ((impl_varint.f k1 (t155 ++ bytesOf ((rd_T29 l0 x17_1).f0)) (((rd_T29 l0 x17_1).f2).size : Int)).bind fun t161 => (if t161.length + ((rd_T29 l0 x17_1).f2).size < 140737488355328 then (impl_PackTree.l0 k1 (t161 ++ bytesOf ((rd_T29 l0 x17_1).f2)) l0 (l0.length : Int) (wrap64 (x17_1 + 1))) else (none))) else (none))) = some r := rH_ hy152 H
   have Ny152 := Aside0.mk hy152
   clear hy152
   replace H := Option.bind_eq_some_iff.mp H
   obtain ⟨t155, A330, H⟩ := H
   have A33 := Aside0.mk A330
   clear A330
   by_cases c34 : t155.length + ((rd_T29 l0 x17_1).f0).size < 140737488355328
   {
   rw [if_pos c34] at H
   have LMc34 := Aside0.mk c34
   clear c34
   obtain ⟨y158, hy158⟩ : ∃ y_ : List Int, y_ = (t155 ++ bytesOf ((rd_T29 l0 x17_1).f0)) := ⟨_, rfl⟩
   replace H : ((impl_varint.f k1 y158 (((rd_T29 l0 x17_1).f2).size : Int)).bind fun t161 => (if t161.length + ((rd_T29 l0 x17_1).f2).size < 140737488355328 then (impl_PackTree.l0 k1 (t161 ++ bytesOf ((rd_T29 l0 x17_1).f2)) l0 (l0.length : Int) (wrap64 (x17_1 + 1))) else (none))) = some r := rH_ hy158 H
   have Ny158 := Aside0.mk hy158
   clear hy158
   replace H := Option.bind_eq_some_iff.mp H
   obtain ⟨t161, A350, H⟩ := H
   have A35 := Aside0.mk A350
   clear A350
   by_cases c36 : t161.length + ((rd_T29 l0 x17_1).f2).size < 140737488355328
   {
   rw [if_pos c36] at H
   have LMc36 := Aside0.mk c36
   clear c36
   obtain ⟨y164, hy164⟩ : ∃ y_ : List Int, y_ = (t161 ++ bytesOf ((rd_T29 l0 x17_1).f2)) := ⟨_, rfl⟩
   replace H : (impl_PackTree.l0 k1 y164 l0 (l0.length : Int) (wrap64 (x17_1 + 1))) = some r := rH_ hy164 H
   have Ny164 := Aside0.mk hy164
   clear hy164
   have H' := Aside0.mk H
   clear H
   have p135 : 0 ≤ (x17_1 : Int) := dA_
   have q135 : x17_1 < (l0.length : Int) := dA_
   obtain ⟨ad135, e135, hx135_0, hx135_1, hx135_2, hx135_3⟩ := at_T29 HR0.out x17_1 p135 q135
   (try rw [← Nbq13.out] at hx135_3)
   cases e135
   replace hx135_0 := hX_ HB hx135_0
   replace hx135_1 := hX_ HB hx135_1
   replace hx135_2 := hX_ HB hx135_2
   replace hx135_3 := hX_ HB hx135_3
   replace p135 := eq_true p135
   replace q135 := eq_true q135
   try go_wp2_with (first | ((with_reducible refine gate_dst (N := 5) rfl ?_); refine bE_ 5 #[.string (⟨#[]⟩ : ByteArray), .int .i64 0, .string (⟨#[]⟩ : ByteArray), .bool false] 29 ?_; intro gb136 hg w37 hbox hb; replace HO_3 := Aside0.mk (Kd.R_below (kr_ HO_3) hb); have BK136 := Aside0.mk (hbox); have GW136 := Aside0.mk ((ge_ hg (bw_ HB))); have GE136 := Aside0.mk ((ge_ hg (bw_ HB))); replace HB := Aside0.mk (below_step (bw_ HB) hb); clear hb hbox hg; obtain ⟨hcz38_0, hcz38_1, hcz38_2, hcz38_3, hfz38_0, hfz38_1, hfz38_2, hfz38_3⟩ := zc4_ BK136))
   have n0_ : Aside0 (Kd.R (Kd.int .u8) 5 ((((w37.setCell ⟨gb136, 0, none⟩ (.string ((rd_T29 l0 x17_1).f0))).setCell ⟨gb136, 1, none⟩ (.int .i64 ((rd_T29 l0 x17_1).f1))).setCell ⟨gb136, 2, none⟩ (.string ((rd_T29 l0 x17_1).f2))).setCell ⟨gb136, 3, none⟩ (.bool false)) w.heap.size (fun _ => True) u3 x3_1) := ⟨by (with_reducible repeat (first | apply Kd.R_alloc | apply Kd.R_drewN | apply Kd.R_drew)); exact Kd.R_mono (Kd.R_far (p := ⟨gb136, 3, none⟩) (Kd.R_far (p := ⟨gb136, 2, none⟩) (Kd.R_far (p := ⟨gb136, 1, none⟩) (Kd.R_far (p := ⟨gb136, 0, none⟩) (Kd.R_types HO_3.out BK136.out (by decide)) (fun _ hk => hk.2) (.string ((rd_T29 l0 x17_1).f0))) (fun _ hk => hk.2) (.int .i64 ((rd_T29 l0 x17_1).f1))) (fun _ hk => hk.2) (.string ((rd_T29 l0 x17_1).f2))) (fun _ hk => hk.2) (.bool false)) (fun _ hk => trivial)⟩
   have n1_ : Aside0 (((((w37.setCell ⟨gb136, 0, none⟩ (.string ((rd_T29 l0 x17_1).f0))).setCell ⟨gb136, 1, none⟩ (.int .i64 ((rd_T29 l0 x17_1).f1))).setCell ⟨gb136, 2, none⟩ (.string ((rd_T29 l0 x17_1).f2))).setCell ⟨gb136, 3, none⟩ (.bool false)).heap[gb136]? = some (.cells #[.string ((rd_T29 l0 x17_1).f0), .int .i64 ((rd_T29 l0 x17_1).f1), .string ((rd_T29 l0 x17_1).f2), .bool false] 29 (0, 0))) := ⟨by (with_reducible repeat (first | refine blk_drewN ?_ _ | refine blk_drew ?_ | refine blk_alloc ?_ _)); refine blk_put (cs := #[.string ((rd_T29 l0 x17_1).f0), .int .i64 ((rd_T29 l0 x17_1).f1), .string ((rd_T29 l0 x17_1).f2), .bool false]) ?_ 3 _ rfl; (with_reducible repeat (first | refine blk_drewN ?_ _ | refine blk_drew ?_ | refine blk_alloc ?_ _)); refine blk_put (cs := #[.string ((rd_T29 l0 x17_1).f0), .int .i64 ((rd_T29 l0 x17_1).f1), .string (⟨#[]⟩ : ByteArray), .bool false]) ?_ 2 _ rfl; (with_reducible repeat (first | refine blk_drewN ?_ _ | refine blk_drew ?_ | refine blk_alloc ?_ _)); refine blk_put (cs := #[.string ((rd_T29 l0 x17_1).f0), .int .i64 0, .string (⟨#[]⟩ : ByteArray), .bool false]) ?_ 1 _ rfl; (with_reducible repeat (first | refine blk_drewN ?_ _ | refine blk_drew ?_ | refine blk_alloc ?_ _)); refine blk_put (cs := #[.string (⟨#[]⟩ : ByteArray), .int .i64 0, .string (⟨#[]⟩ : ByteArray), .bool false]) ?_ 0 _ rfl; exact bk_ BK136⟩
   have n2_ : Aside0 (Below w.heap.size w ((((w37.setCell ⟨gb136, 0, none⟩ (.string ((rd_T29 l0 x17_1).f0))).setCell ⟨gb136, 1, none⟩ (.int .i64 ((rd_T29 l0 x17_1).f1))).setCell ⟨gb136, 2, none⟩ (.string ((rd_T29 l0 x17_1).f2))).setCell ⟨gb136, 3, none⟩ (.bool false))) := ⟨bw1_ HB GE136⟩
   (try rw [← Nbq13.out])
   (try clear HO_3)
   (try clear BK136)
   (try clear HB)
   generalize ((((w37.setCell ⟨gb136, 0, none⟩ (.string ((rd_T29 l0 x17_1).f0))).setCell ⟨gb136, 1, none⟩ (.int .i64 ((rd_T29 l0 x17_1).f1))).setCell ⟨gb136, 2, none⟩ (.string ((rd_T29 l0 x17_1).f2))).setCell ⟨gb136, 3, none⟩ (.bool false)) = w39 at n0_ n1_ n2_ ⊢
   have HO_3 := n0_
   have BK136 := n1_
   have HB := n2_
   clear n0_ n1_ n2_
   replace HO_3 := Aside0.mk (Kd.R_drew HO_3.out)
   replace BK136 := Aside0.mk (blk_drew BK136.out)
   replace HB := Aside0.mk (below_drew1 HB.out)
   refine start_ (n := 12) (S := fun w' => w'.cell? ⟨gb136, 0, none⟩ = some (.string ((rd_T29 l0 x17_1).f0)) ∧ w'.cell? ⟨gb136, 1, none⟩ = some (.int .i64 ((rd_T29 l0 x17_1).f1)) ∧ w'.cell? ⟨gb136, 2, none⟩ = some (.string ((rd_T29 l0 x17_1).f2)) ∧ w'.cell? ⟨gb136, 3, none⟩ = some (.bool false)) (ds := []) (bs_ 12 0) (by kernel_rfl) rfl (by kernel_rfl) ⟨(blk_cell BK136.out 0).trans rfl, (blk_cell BK136.out 1).trans rfl, (blk_cell BK136.out 2).trans rfl, (blk_cell BK136.out 3).trans rfl⟩ (fun hHeld => ?_); refine with_tabW impl_PackTree.tab10 impl_PackTree.bits10 (fun HT_ HW_ => ?_)
   generalize w39.drew = w40 at HO_3 BK136 HB hHeld ⊢
   refine pS_ 0 ?_
   refine pS_ 1 ?_
   refine pS_ 4 ?_
   refine pS_ 8 ?_
   refine t4_ 5 hHeld ?_
   refine pS_ 6 ?_
   refine t4_ 9 hHeld ?_
   refine oS_ 2 (fun K hK => ?_)
   refine value_ (w1 := ?_) (v := ?_) (by rfl) rfl ?_ ?_
   rotate_left 2
   {
   go_simp
   constructor
   {
   rfl}
   {
   rfl}}
   refine hK.out _ _ ⟨(blk_cell (blk_alloc BK136.out _) 0).trans rfl, (blk_cell (blk_alloc BK136.out _) 1).trans rfl, (blk_cell (blk_alloc BK136.out _) 2).trans rfl, (blk_cell (blk_alloc BK136.out _) 3).trans rfl⟩ (fun hHeld => ?_)
   clear hK K
   refine nS_ 30 ?_
   refine oS_ 3 (fun K hK => ?_)
   refine Kd.R_append_step (Kd.int .u8) (w0 := w) w.heap.size (by rfl) (.tmp 28) (.tmp 30) 22 5 (.int .u8 0) 1 rfl Tryd.underlying22 info5 rfl (by decide) (by omega) u3 x3_1 (((rd_T29 l0 x17_1).f1) % 256) [.int .u8 (((rd_T29 l0 x17_1).f1) % 256)] (fun _ => True) (fun _ => False) rfl rfl ?aP (fun _ hk => hk.elim) ?aF ?aO ?aB ?aS ?aL ?_
   (case aP => exact rfl)
   (case aB => exact (bw1_ HB GE136))
   (case aF => exact (fun _ _ => trivial))
   (case aO => exact (kr_ HO_3))
   (case aS => exact (below_size (bw1_ HB GE136)))
   (case aL => have := LMc32.out; omega)
   intro v153 w41 ho hb hg hat
   rw [← Ny152.out] at ho
   replace BK136 := Aside0.mk (blk_grown (g := gb136) (o := .cells #[.string ((rd_T29 l0 x17_1).f0), .int .i64 ((rd_T29 l0 x17_1).f1), .string ((rd_T29 l0 x17_1).f2), .bool false] 29 (0, 0)) (bk_ BK136) hg (Kd.R_ne HO_3.out BK136.out (by decide)))
   replace HB := Aside0.mk (hb)
   have HO154 := Aside0.mk (ho)
   clear HO_3
   clear ho hb hg hat
   obtain ⟨Ao42, co42, eo42⟩ := Kd.R_slice HO154.out
   (first | subst eo42 | (injection eo42 with f1_ f2_ f3_; have f4_ := f1_.symm; have f5_ := f3_.symm; clear f1_ f2_ f3_; subst f4_; subst f5_))
   refine hK.out _ _ ⟨(blk_cell BK136.out 0).trans rfl, (blk_cell BK136.out 1).trans rfl, (blk_cell BK136.out 2).trans rfl, (blk_cell BK136.out 3).trans rfl⟩ (fun hHeld => ?_)
   clear hK K
   refine nS_ 31 ?_
   refine oS_ 7 (fun K hK => ?_)
   refine gS_ Tryd.func23 #[.slice Ao42 y152.length co42, .int .i64 (((rd_T29 l0 x17_1).f0).size : Int)] ?_
   with_reducible refine (impl_varint.calls k1 (fun k_ => some k_ = (.slice Ao42 y152.length co42 : Value).ownBlock) (.slice Ao42 y152.length co42) y152 (((rd_T29 l0 x17_1).f0).size : Int) t155 w _ ?side1 ?side2 A33.out).mono ?_
   (case side1 => exact bw1_ HB GE136)
   (case side2 => exact Kd.R_tight rfl HO154.out)
   rintro e w43 ⟨v156, rfl, ho0, hb, hkp⟩
   refine ⟨_, rfl, ?_⟩
   replace BK136 := Aside0.mk (blk_kept (bk_ BK136) hkp (fun hs_ => (fun e_ => (Kd.R_ne HO154.out BK136.out (by decide)) e_) hs_))
   have HO157 := Aside0.mk (Kd.R_mono (ok' := fun k_ => True) ho0 (fun k_ hk_ => trivial))
   replace HB := Aside0.mk (hb)
   clear HO154
   (try clear hb)
   (try clear hkp)
   (try clear ho0)
   refine hK.out _ _ ⟨(blk_cell BK136.out 0).trans rfl, (blk_cell BK136.out 1).trans rfl, (blk_cell BK136.out 2).trans rfl, (blk_cell BK136.out 3).trans rfl⟩ (fun hHeld => ?_)
   clear hK K
   refine nS_ 35 ?_
   refine oS_ 10 (fun K hK => ?_)
   refine print_append_str_step (w0 := w) w.heap.size (by rfl) (.tmp 35) _ 22 9 5 rfl Tryd.underlying22 Tryd.underlying9 info5 v156 t155 ((rd_T29 l0 x17_1).f0) rfl rfl ?aO ?aB ?aS ?aL ?_
   (case aB => exact (bw1_ HB GE136))
   (case aO => exact (Kd.own_of_R (kr_ HO157)))
   (case aS => exact (below_size (bw1_ HB GE136)))
   (case aL => have := LMc34.out; omega)
   intro v159 w44 ho0 hb hg
   have ho := Kd.R_of_own (h1 := fun _ => rfl) (ok := fun _ => True) ho0 (fun _ _ => trivial)
   clear ho0
   have hat := True.intro
   rw [← Ny158.out] at ho
   change Kd.R (Kd.int .u8) 5 w44 w.heap.size (fun _ => True) v159 y158 at ho
   replace BK136 := Aside0.mk (blk_grown (g := gb136) (o := .cells #[.string ((rd_T29 l0 x17_1).f0), .int .i64 ((rd_T29 l0 x17_1).f1), .string ((rd_T29 l0 x17_1).f2), .bool false] 29 (0, 0)) (bk_ BK136) hg (Kd.R_ne HO157.out BK136.out (by decide)))
   replace HB := Aside0.mk (hb)
   have HO160 := Aside0.mk (ho)
   clear HO157
   clear ho hb hg hat
   refine hK.out _ _ ⟨(blk_cell BK136.out 0).trans rfl, (blk_cell BK136.out 1).trans rfl, (blk_cell BK136.out 2).trans rfl, (blk_cell BK136.out 3).trans rfl⟩ (fun hHeld => ?_)
   clear hK K
   refine nS_ 38 ?_
   refine pS_ 11 ?_
   refine done_ (done_of HT_.out (by kernel_rfl)) ?_
   try go_wp2
   replace HO160 := Aside0.mk (Kd.R_drew HO160.out)
   replace BK136 := Aside0.mk (blk_drew BK136.out)
   replace HB := Aside0.mk (below_drew1 HB.out)
   obtain ⟨Ao46, co46, eo46⟩ := Kd.R_slice HO160.out
   (first | subst eo46 | (injection eo46 with f1_ f2_ f3_; have f4_ := f1_.symm; have f5_ := f3_.symm; clear f1_ f2_ f3_; subst f4_; subst f5_))
   refine start_ (n := 9) (S := fun w' => w'.cell? ⟨gb136, 0, none⟩ = some (.string ((rd_T29 l0 x17_1).f0)) ∧ w'.cell? ⟨gb136, 1, none⟩ = some (.int .i64 ((rd_T29 l0 x17_1).f1)) ∧ w'.cell? ⟨gb136, 2, none⟩ = some (.string ((rd_T29 l0 x17_1).f2)) ∧ w'.cell? ⟨gb136, 3, none⟩ = some (.bool false)) (ds := []) (bs_ 9 0) (by kernel_rfl) rfl (by kernel_rfl) ⟨(blk_cell BK136.out 0).trans rfl, (blk_cell BK136.out 1).trans rfl, (blk_cell BK136.out 2).trans rfl, (blk_cell BK136.out 3).trans rfl⟩ (fun hHeld => ?_); refine with_tabW impl_PackTree.tab11 impl_PackTree.bits11 (fun HT_ HW_ => ?_)
   generalize w44.drew = w45 at HO160 BK136 HB hHeld ⊢
   refine pS_ 0 ?_
   refine pS_ 1 ?_
   refine pS_ 5 ?_
   refine t4_ 2 hHeld ?_
   refine pS_ 3 ?_
   refine t4_ 6 hHeld ?_
   refine oS_ 4 (fun K hK => ?_)
   refine gS_ Tryd.func23 #[.slice Ao46 y158.length co46, .int .i64 (((rd_T29 l0 x17_1).f2).size : Int)] ?_
   with_reducible refine (impl_varint.calls k1 (fun k_ => some k_ = (.slice Ao46 y158.length co46 : Value).ownBlock) (.slice Ao46 y158.length co46) y158 (((rd_T29 l0 x17_1).f2).size : Int) t161 w _ ?side1 ?side2 A35.out).mono ?_
   (case side1 => exact bw1_ HB GE136)
   (case side2 => exact Kd.R_tight rfl HO160.out)
   rintro e w47 ⟨v162, rfl, ho0, hb, hkp⟩
   refine ⟨_, rfl, ?_⟩
   replace BK136 := Aside0.mk (blk_kept (bk_ BK136) hkp (fun hs_ => (fun e_ => (Kd.R_ne HO160.out BK136.out (by decide)) e_) hs_))
   have HO163 := Aside0.mk (Kd.R_mono (ok' := fun k_ => True) ho0 (fun k_ hk_ => trivial))
   replace HB := Aside0.mk (hb)
   clear HO160
   (try clear hb)
   (try clear hkp)
   (try clear ho0)
   refine hK.out _ _ ⟨(blk_cell BK136.out 0).trans rfl, (blk_cell BK136.out 1).trans rfl, (blk_cell BK136.out 2).trans rfl, (blk_cell BK136.out 3).trans rfl⟩ (fun hHeld => ?_)
   clear hK K
   refine nS_ 43 ?_
   refine oS_ 7 (fun K hK => ?_)
   refine print_append_str_step (w0 := w) w.heap.size (by rfl) (.tmp 43) _ 22 9 5 rfl Tryd.underlying22 Tryd.underlying9 info5 v162 t161 ((rd_T29 l0 x17_1).f2) rfl rfl ?aO ?aB ?aS ?aL ?_
   (case aB => exact (bw1_ HB GE136))
   (case aO => exact (Kd.own_of_R (kr_ HO163)))
   (case aS => exact (below_size (bw1_ HB GE136)))
   (case aL => have := LMc36.out; omega)
   intro v165 w48 ho0 hb hg
   have ho := Kd.R_of_own (h1 := fun _ => rfl) (ok := fun _ => True) ho0 (fun _ _ => trivial)
   clear ho0
   have hat := True.intro
   rw [← Ny164.out] at ho
   change Kd.R (Kd.int .u8) 5 w48 w.heap.size (fun _ => True) v165 y164 at ho
   replace BK136 := Aside0.mk (blk_grown (g := gb136) (o := .cells #[.string ((rd_T29 l0 x17_1).f0), .int .i64 ((rd_T29 l0 x17_1).f1), .string ((rd_T29 l0 x17_1).f2), .bool false] 29 (0, 0)) (bk_ BK136) hg (Kd.R_ne HO163.out BK136.out (by decide)))
   replace HB := Aside0.mk (hb)
   have HO166 := Aside0.mk (ho)
   clear HO163
   clear ho hb hg hat
   refine hK.out _ _ ⟨(blk_cell BK136.out 0).trans rfl, (blk_cell BK136.out 1).trans rfl, (blk_cell BK136.out 2).trans rfl, (blk_cell BK136.out 3).trans rfl⟩ (fun hHeld => ?_)
   clear hK K
   refine nS_ 46 ?_
   refine pS_ 8 ?_
   refine done_ (done_of HT_.out (by kernel_rfl)) ?_
   try go_wp2
   go_roundg k1
   case measure => have := HK1.out; omega
   case rel => exact ⟨(y164), (wrap64 (x17_1 + 1)), (by first | rfl | (simp; done) | (simp [*]; done)), H', ⟨by have := HK1.out; omega⟩, ⟨kr_ HO166⟩, ⟨bw1_ HB GE136⟩⟩}
   {
   rw [if_neg c36] at H
   exact absurd H (by simp)}}
   {
   rw [if_neg c34] at H
   exact absurd H (by simp)}}
   {
   rw [if_neg c32] at H
   exact absurd H (by simp)}}}
   {
   rw [if_neg c12] at H
   exact absurd H (by simp)}}
   {
   rw [if_neg c11] at H
   exact absurd H (by simp)}}
   {
   rw [if_neg c10] at H
   have c10b0 := decide_eq_false c10
   clear c10
   obtain rfl := Option.some.inj H
   go_wp2
   go_ret
   exact ⟨_, eR_, kr_ HO_3, bw_ HB⟩}}
 {
 replace c3 := Bool.eq_false_iff.mpr c3
 subst c3
 rw [if_neg (show ¬ (false = true) by decide)] at H
 obtain rfl := Option.some.inj H
 go_enter Tryd.func6, Tryd.ntmps6
 go_wp2_with (first | ((with_reducible refine gate_callee (f := 22) rfl ?_); refine gL_ (some 8) Tryd.func22 #[.slice A0 l0.length c0] ?_; (with_reducible refine (impl_TreeOk.calls k _ _ l0 false _ ?side1 ?side2 ?side3 A2.out).mono ?_); (case side1 => refine EnvW.below HE.out ?_; exact bw_ HB); (case side2 => exact cc_ HR0); (case side3 => exact HC0.out); rintro e w49 ⟨rfl, hb⟩; refine ⟨_, rfl, ?_⟩; replace HB := Aside0.mk (below_step (bw_ HB) hb); clear hb))
 go_ret
 exact ⟨_, eR_, by first | exact Kd.R_nil _ _ _ _ _ | exact Kd.N_nil _ _ _ _ _ | exact Kd.V_nil _ _ _ _ _ | exact Kd.Q_nil _ _ _ _ _ | exact Kd.S_nil _ _ _ _ _, bw_ HB⟩
}
def impl_TreeSum.f (k : Nat) (l0 : List (S29)) : Option (ByteArray) := (impl_TreeOk.f k l0).bind fun t465 => (if t465 = true then ((impl_PackTree.f k l0).bind fun t466 => ((impl_Sum.f k t466).bind fun t469 => ((impl_Word32.f k t469).bind fun t470 => (some t470)))) else (some (⟨#[]⟩ : ByteArray)))
theorem impl_TreeSum.calls (k : Nat) (A0 : Option Addr) (c0 : Nat) (l0 : List (S29)) (r : ByteArray) (w : World) (hE : EnvW w) (hr0 : Kd.C k29 w A0 l0.length l0) (hc0 : l0.length ≤ c0) (h : impl_TreeSum.f k l0 = some r) :
 Calls Tryd.prog 10 #[.slice A0 l0.length c0] w fun e w' => e = .returned (.string r) ∧ Below w.heap.size w w' := by
 have HE := Aside0.mk hE
 clear hE
 have HR0 := Aside0.mk hr0
 have HC0 := Aside0.mk hc0
 clear hr0 hc0
 have HB := Aside0.mk (Below.refl w.heap.size w)
 have H : ((impl_TreeOk.f k l0).bind fun t465 => (if t465 = true then ((impl_PackTree.f k l0).bind fun t466 => ((impl_Sum.f k t466).bind fun t469 => ((impl_Word32.f k t469).bind fun t470 => (some t470)))) else (some (⟨#[]⟩ : ByteArray)))) = some r := h
 clear h
 replace H := Option.bind_eq_some_iff.mp H
 obtain ⟨t465, A20, H⟩ := H
 have A2 := Aside0.mk A20
 clear A20
 by_cases c3 : t465 = true
 {
 subst c3
 rw [if_pos rfl] at H
 replace H := Option.bind_eq_some_iff.mp H
 obtain ⟨t466, A40, H⟩ := H
 have A4 := Aside0.mk A40
 clear A40
 replace H := Option.bind_eq_some_iff.mp H
 obtain ⟨t469, A50, H⟩ := H
 have A5 := Aside0.mk A50
 clear A50
 replace H := Option.bind_eq_some_iff.mp H
 obtain ⟨t470, A60, H⟩ := H
 have A6 := Aside0.mk A60
 clear A60
 obtain rfl := Option.some.inj H
 go_enter Tryd.func10, Tryd.ntmps10
 go_wp2_with (first | ((with_reducible refine gate_callee (f := 22) rfl ?_); refine gL_ (some 4) Tryd.func22 #[.slice A0 l0.length c0] ?_; (with_reducible refine (impl_TreeOk.calls k _ _ l0 true _ ?side1 ?side2 ?side3 A2.out).mono ?_); (case side1 => refine EnvW.below HE.out ?_; exact bw_ HB); (case side2 => exact cc_ HR0); (case side3 => exact HC0.out); rintro e w7 ⟨rfl, hb⟩; refine ⟨_, rfl, ?_⟩; replace HB := Aside0.mk (below_step (bw_ HB) hb); clear hb) | ((with_reducible refine gate_callee (f := 6) rfl ?_); refine gL_ (some 7) Tryd.func6 #[.slice A0 l0.length c0] ?_; (with_reducible refine (impl_PackTree.calls k _ _ l0 t466 _ ?side1 ?side2 ?side3 A4.out).mono ?_); (case side1 => refine EnvW.below HE.out ?_; exact bw_ HB); (case side2 => exact cS_ HR0 HB); (case side3 => exact HC0.out); rintro e w8 ⟨v467, rfl, ho0, hb⟩; refine ⟨_, rfl, ?_⟩; have HO468 := Aside0.mk (Kd.R_lower ho0 (below_size (bw_ HB))); replace HB := Aside0.mk (below_step (bw_ HB) hb); clear hb; (try clear ho0); obtain ⟨Ao9, co9, eo9⟩ := Kd.R_slice HO468.out; subst eo9) | ((with_reducible refine gate_callee (f := 12) rfl ?_); refine gL_ (some 8) Tryd.func12 #[.slice Ao9 t466.length co9] ?_; (with_reducible refine (impl_Sum.calls k _ _ t466 t469 _ ?side1 ?side2 A5.out).mono ?_); (case side1 => exact cR_ HO468); (case side2 => exact (Kd.R_reads' HO468.out).2.1); rintro e w' ⟨rfl, ⟨nd, rfl⟩⟩; refine ⟨_, rfl, ?_⟩) | ((with_reducible refine gate_callee (f := 11) rfl ?_); refine gL_ (some 9) Tryd.func11 #[.int .u64 t469] ?_; (with_reducible refine (impl_Word32.calls k t469 t470 _ A6.out).mono ?_); rintro e w10 ⟨rfl, hb⟩; refine ⟨_, rfl, ?_⟩; replace HO468 := Aside0.mk (Kd.R_below (kr_ HO468) hb); replace HB := Aside0.mk (below_step (bw_ HB) hb); clear hb))
 go_ret
 exact ⟨eR_, bw_ HB⟩}
 {
 replace c3 := Bool.eq_false_iff.mpr c3
 subst c3
 rw [if_neg (show ¬ (false = true) by decide)] at H
 obtain rfl := Option.some.inj H
 go_enter Tryd.func10, Tryd.ntmps10
 go_wp2_with (first | ((with_reducible refine gate_callee (f := 22) rfl ?_); refine gL_ (some 4) Tryd.func22 #[.slice A0 l0.length c0] ?_; (with_reducible refine (impl_TreeOk.calls k _ _ l0 false _ ?side1 ?side2 ?side3 A2.out).mono ?_); (case side1 => refine EnvW.below HE.out ?_; exact bw_ HB); (case side2 => exact cc_ HR0); (case side3 => exact HC0.out); rintro e w11 ⟨rfl, hb⟩; refine ⟨_, rfl, ?_⟩; replace HB := Aside0.mk (below_step (bw_ HB) hb); clear hb))
 go_ret
 exact ⟨eR_, bw_ HB⟩}
def spec_l10Num.l0 : Nat → List Int → Int → Option (List Int)
 | 0, _, _ => none
 | k + 1, x0, x1 => if x1 ≥ 128 then (if x0.length < 140737488355328 then (spec_l10Num.l0 k (x0 ++ [(wrap64 ((Int.tmod x1 128) + 128)) % 256]) (wrap64 (Int.tdiv x1 128))) else (none)) else (if x0.length < 140737488355328 then (some (x0 ++ [(x1) % 256])) else (none))
def spec_l10Num.f (k : Nat) (l0 : List Int) (a1 : Int) : Option (List Int) := spec_l10Num.l0 k l0 a1
theorem spec_l10Num.calls (k : Nat) (P0_ : Nat → Prop) (u9000_ : Value) (l0 : List Int) (a1 : Int) (r : List Int) (w0 w : World) (hB : Below w0.heap.size w0 w) (ho0 : Kd.R (Kd.int .u8) 5 w w0.heap.size P0_ u9000_ l0) (h : spec_l10Num.f k l0 a1 = some r) :
 Calls Tryd.prog 53 #[u9000_, .int .i64 a1] w fun e w' => ∃ v0_ : Value, e = .returned (v0_) ∧ Kd.R (Kd.int .u8) 5 w' w0.heap.size (fun k_ => (P0_ k_ ∨ w.heap.size ≤ k_)) v0_ r ∧ Below w0.heap.size w0 w' ∧ Kept w w' (fun k_ => P0_ k_) := by
 have HO0 := Aside0.mk (show Kd.R (Kd.int .u8) 5 w w0.heap.size (fun k_ => (P0_ k_ ∨ w.heap.size ≤ k_)) u9000_ l0 from Kd.R_mono ho0 (fun k_ hk => (.inl hk)))
 have HK := Aside0.mk (Kept.refl w (fun k_ => P0_ k_))
 have HW0 := Aside0.mk hB.size
 have HB := Aside0.mk hB
 clear hB
 have H : (spec_l10Num.l0 k l0 a1) = some r := h
 clear h
 have H' := Aside0.mk H
 clear H
 go_enter Tryd.func53, Tryd.ntmps53
 go_wp2
 go_loopg [0, 1] k (fun kq v0 v1 w' => ∃ (x0_1 : List Int) (x1_1 : Int), v1 = .int .i64 x1_1 ∧ Aside0 (spec_l10Num.l0 kq x0_1 x1_1 = some r) ∧ Aside0 (kq ≤ k) ∧ Aside0 (Kd.R (Kd.int .u8) 5 w' w0.heap.size (fun k_ => (P0_ k_ ∨ w.heap.size ≤ k_)) v0 x0_1) ∧ Aside0 (Kept w w' (fun k_ => P0_ k_)) ∧ Aside0 (Below w0.heap.size w0 w'))
 case atStart => exact ⟨(l0), (a1), (by first | rfl | (simp; done) | (simp [*]; done)), H', ⟨Nat.le_refl _⟩, ⟨kr_ HO0⟩, ⟨by repeat (first | (with_reducible first | exact HK.out | apply Kept.alloc | apply Kept.drewN | apply Kept.drew) | exact HK.out)⟩, ⟨bw_ HB⟩⟩
 case round =>
  clear H'
  try clear p2
  obtain ⟨x0_1, x1_1, rfl, HA, HK1, HO_0, HK, HB⟩ := hrel
  cases gk with
  | zero => exact absurd HA.out (by simp [spec_l10Num.l0])
  | succ k1 =>
   have H := HA.out
   clear HA
   simp only [spec_l10Num.l0] at H
   by_cases c3 : x1_1 ≥ 128
   {
   rw [if_pos c3] at H
   have c3b0 : decide (128 ≤ x1_1) = true := decide_eq_true c3
   clear c3
   by_cases c4 : x0_1.length < 140737488355328
   {
   rw [if_pos c4] at H
   have LMc4 := Aside0.mk c4
   clear c4
   obtain ⟨y471, hy471⟩ : ∃ y_ : List Int, y_ = (x0_1 ++ [(wrap64 ((Int.tmod x1_1 128) + 128)) % 256]) := ⟨_, rfl⟩
   replace H : (spec_l10Num.l0 k1 y471 (wrap64 (Int.tdiv x1_1 128))) = some r := rH_ hy471 H
   have Ny471 := Aside0.mk hy471
   clear hy471
   have H' := Aside0.mk H
   clear H
   go_wp2_with (first | ((with_reducible refine gate_builtin (b := .append) (xs := #[.tmp 7, .tmp 12]) rfl ?_); at_builtin; refine Kd.R_append (Kd.int .u8) (w0 := w0) w0.heap.size rfl (.tmp 7) (.tmp 12) 22 5 (.int .u8 0) 1 rfl Tryd.underlying22 info5 rfl (by decide) (by omega) u0 x0_1 ((wrap64 ((Int.tmod x1_1 128) + 128)) % 256) [.int .u8 ((wrap64 ((Int.tmod x1_1 128) + 128)) % 256)] (fun k_ => (P0_ k_ ∨ w.heap.size ≤ k_)) (fun _ => False) rfl rfl ?aP (fun _ hk => hk.elim) ?aF ?aO ?aB ?aS ?aL ?_; (case aP => exact rfl); (case aB => exact (bw_ HB)); (case aF => exact (fun k_ hk => (.inr (Nat.le_trans (by first | exact HK.out.1 | exact (show Kept w _ (fun k_ => P0_ k_) from by repeat (first | (with_reducible first | exact HK.out | apply Kept.alloc | apply Kept.drewN | apply Kept.drew) | exact HK.out)).1) hk)))); (case aO => exact (kr_ HO_0)); (case aS => exact (below_size (bw_ HB))); (case aL => have := LMc4.out; omega); intro v472 w5 ho hb hg hat; rw [← Ny471.out] at ho; replace HB := Aside0.mk (hb); replace HK := Aside0.mk (Kept.of_grown (S := (fun k_ => P0_ k_)) hg (by repeat (first | (with_reducible first | exact HK.out | apply Kept.alloc | apply Kept.drewN | apply Kept.drew) | exact HK.out)) (fun k_ e_ => (HO_0.out.1 k_ e_))); have HO473 := Aside0.mk (ho); clear HO_0; clear ho hb hg hat))
   go_roundg k1
   case measure => have := HK1.out; omega
   case rel => exact ⟨(y471), (wrap64 (Int.tdiv x1_1 128)), (by first | rfl | (simp; done) | (simp [*]; done)), H', ⟨by have := HK1.out; omega⟩, ⟨kr_ HO473⟩, ⟨by repeat (first | (with_reducible first | exact HK.out | apply Kept.alloc | apply Kept.drewN | apply Kept.drew) | exact HK.out)⟩, ⟨bw_ HB⟩⟩}
   {
   rw [if_neg c4] at H
   exact absurd H (by simp)}}
   {
   rw [if_neg c3] at H
   have c3b0 : decide (128 ≤ x1_1) = false := decide_eq_false c3
   clear c3
   by_cases c6 : x0_1.length < 140737488355328
   {
   rw [if_pos c6] at H
   have LMc6 := Aside0.mk c6
   clear c6
   obtain ⟨y474, hy474⟩ : ∃ y_ : List Int, y_ = (x0_1 ++ [(x1_1) % 256]) := ⟨_, rfl⟩
   replace H : (some y474) = some r := rH_ hy474 H
   have Ny474 := Aside0.mk hy474
   clear hy474
   obtain rfl := Option.some.inj H
   go_wp2_with (first | ((with_reducible refine gate_builtin (b := .append) (xs := #[.tmp 16, .tmp 19]) rfl ?_); at_builtin; refine Kd.R_append (Kd.int .u8) (w0 := w0) w0.heap.size rfl (.tmp 16) (.tmp 19) 22 5 (.int .u8 0) 1 rfl Tryd.underlying22 info5 rfl (by decide) (by omega) u0 x0_1 ((x1_1) % 256) [.int .u8 ((x1_1) % 256)] (fun k_ => (P0_ k_ ∨ w.heap.size ≤ k_)) (fun _ => False) rfl rfl ?aP (fun _ hk => hk.elim) ?aF ?aO ?aB ?aS ?aL ?_; (case aP => exact rfl); (case aB => exact (bw_ HB)); (case aF => exact (fun k_ hk => (.inr (Nat.le_trans (by first | exact HK.out.1 | exact (show Kept w _ (fun k_ => P0_ k_) from by repeat (first | (with_reducible first | exact HK.out | apply Kept.alloc | apply Kept.drewN | apply Kept.drew) | exact HK.out)).1) hk)))); (case aO => exact (kr_ HO_0)); (case aS => exact (below_size (bw_ HB))); (case aL => have := LMc6.out; omega); intro v475 w7 ho hb hg hat; rw [← Ny474.out] at ho; replace HB := Aside0.mk (hb); replace HK := Aside0.mk (Kept.of_grown (S := (fun k_ => P0_ k_)) hg (by repeat (first | (with_reducible first | exact HK.out | apply Kept.alloc | apply Kept.drewN | apply Kept.drew) | exact HK.out)) (fun k_ e_ => (HO_0.out.1 k_ e_))); have HO476 := Aside0.mk (ho); clear HO_0; clear ho hb hg hat))
   go_ret
   exact ⟨_, eR_, kr_ HO476, bw_ HB, by repeat (first | (with_reducible first | exact HK.out | apply Kept.alloc | apply Kept.drewN | apply Kept.drew) | exact HK.out)⟩}
   {
   rw [if_neg c6] at H
   exact absurd H (by simp)}}
theorem spec_l10Num.callsZ (k : Nat) (P0_ : Nat → Prop) (u9000_ : Value) (l0 : List Int) (a1 : Int) (r : List Int) (w0 w : World) (hB : Below w0.heap.size w0 w) (ho0 : Kd.Z (Kd.int .u8) 5 w w0.heap.size P0_ u9000_ l0) (h : spec_l10Num.f k l0 a1 = some r) :
 Calls Tryd.prog 53 #[u9000_, .int .i64 a1] w fun e w' => ∃ v0_ : Value, e = .returned (v0_) ∧ Kd.R (Kd.int .u8) 5 w' w0.heap.size (fun k_ => (P0_ k_ ∨ w.heap.size ≤ k_)) v0_ r ∧ Below w0.heap.size w0 w' ∧ Kept w w' (fun k_ => P0_ k_) := by
 have HO0 := Aside0.mk (show Kd.Z (Kd.int .u8) 5 w w0.heap.size (fun k_ => (P0_ k_ ∨ w.heap.size ≤ k_)) u9000_ l0 from Kd.Z_mono ho0 (fun k_ hk => (.inl hk)))
 have HK := Aside0.mk (Kept.refl w (fun k_ => P0_ k_))
 have HW0 := Aside0.mk hB.size
 have HB := Aside0.mk hB
 clear hB
 have H : (spec_l10Num.l0 k l0 a1) = some r := h
 clear h
 have H' := Aside0.mk H
 clear H
 go_enter Tryd.func53, Tryd.ntmps53
 go_wp2
 go_loopg [0, 1] k (fun kq v0 v1 w' => ∃ (x0_1 : List Int) (x1_1 : Int), v1 = .int .i64 x1_1 ∧ Aside0 (spec_l10Num.l0 kq x0_1 x1_1 = some r) ∧ Aside0 (kq ≤ k) ∧ Aside0 (Kd.Z (Kd.int .u8) 5 w' w0.heap.size (fun k_ => (P0_ k_ ∨ w.heap.size ≤ k_)) v0 x0_1) ∧ Aside0 (Kept w w' (fun k_ => P0_ k_)) ∧ Aside0 (Below w0.heap.size w0 w'))
 case atStart => exact ⟨(l0), (a1), (by first | rfl | (simp; done) | (simp [*]; done)), H', ⟨Nat.le_refl _⟩, ⟨HO0.out⟩, ⟨by repeat (first | (with_reducible first | exact HK.out | apply Kept.alloc | apply Kept.drewN | apply Kept.drew) | exact HK.out)⟩, ⟨bw_ HB⟩⟩
 case round =>
  clear H'
  try clear p2
  obtain ⟨x0_1, x1_1, rfl, HA, HK1, HO_0, HK, HB⟩ := hrel
  cases gk with
  | zero => exact absurd HA.out (by simp [spec_l10Num.l0])
  | succ k1 =>
   have H := HA.out
   clear HA
   simp only [spec_l10Num.l0] at H
   by_cases c3 : x1_1 ≥ 128
   {
   rw [if_pos c3] at H
   have c3b0 : decide (128 ≤ x1_1) = true := decide_eq_true c3
   clear c3
   by_cases c4 : x0_1.length < 140737488355328
   {
   rw [if_pos c4] at H
   have LMc4 := Aside0.mk c4
   clear c4
   obtain ⟨y471, hy471⟩ : ∃ y_ : List Int, y_ = (x0_1 ++ [(wrap64 ((Int.tmod x1_1 128) + 128)) % 256]) := ⟨_, rfl⟩
   replace H : (spec_l10Num.l0 k1 y471 (wrap64 (Int.tdiv x1_1 128))) = some r := rH_ hy471 H
   have Ny471 := Aside0.mk hy471
   clear hy471
   have H' := Aside0.mk H
   clear H
   go_wp2_with (first | ((with_reducible refine gate_builtin (b := .append) (xs := #[.tmp 7, .tmp 12]) rfl ?_); at_builtin; refine Kd.Z_append (Kd.int .u8) (w0 := w0) w0.heap.size rfl (.tmp 7) (.tmp 12) 22 5 (.int .u8 0) 1 rfl Tryd.underlying22 info5 rfl (by decide) (by omega) u0 x0_1 ((wrap64 ((Int.tmod x1_1 128) + 128)) % 256) [.int .u8 ((wrap64 ((Int.tmod x1_1 128) + 128)) % 256)] (fun k_ => (P0_ k_ ∨ w.heap.size ≤ k_)) (fun _ => False) rfl rfl ?aP (fun _ hk => hk.elim) ?aF ?aO ?aB ?aS ?aL rfl ?_; (case aP => exact rfl); (case aB => exact (bw_ HB)); (case aF => exact (fun k_ hk => (.inr (Nat.le_trans (by first | exact HK.out.1 | exact (show Kept w _ (fun k_ => P0_ k_) from by repeat (first | (with_reducible first | exact HK.out | apply Kept.alloc | apply Kept.drewN | apply Kept.drew) | exact HK.out)).1) hk)))); (case aO => exact (by (with_reducible repeat (first | apply Kd.R_alloc | apply Kd.R_drewN | apply Kd.R_drew)); exact HO_0.out)); (case aS => exact (below_size (bw_ HB))); (case aL => have := LMc4.out; omega); intro v472 w5 ho hb hg hat; rw [← Ny471.out] at ho; replace HB := Aside0.mk (hb); replace HK := Aside0.mk (Kept.of_grown (S := (fun k_ => P0_ k_)) hg (by repeat (first | (with_reducible first | exact HK.out | apply Kept.alloc | apply Kept.drewN | apply Kept.drew) | exact HK.out)) (fun k_ e_ => (Kd.Z_ok HO_0.out k_ e_))); have HO473 := Aside0.mk (ho); clear HO_0; clear ho hb hg hat))
   go_roundg k1
   case measure => have := HK1.out; omega
   case rel => exact ⟨(y471), (wrap64 (Int.tdiv x1_1 128)), (by first | rfl | (simp; done) | (simp [*]; done)), H', ⟨by have := HK1.out; omega⟩, ⟨Kd.Z_of (by (with_reducible repeat (first | apply Kd.R_alloc | apply Kd.R_drewN | apply Kd.R_drew)); exact HO473.out)⟩, ⟨by repeat (first | (with_reducible first | exact HK.out | apply Kept.alloc | apply Kept.drewN | apply Kept.drew) | exact HK.out)⟩, ⟨bw_ HB⟩⟩}
   {
   rw [if_neg c4] at H
   exact absurd H (by simp)}}
   {
   rw [if_neg c3] at H
   have c3b0 : decide (128 ≤ x1_1) = false := decide_eq_false c3
   clear c3
   by_cases c6 : x0_1.length < 140737488355328
   {
   rw [if_pos c6] at H
   have LMc6 := Aside0.mk c6
   clear c6
   obtain ⟨y474, hy474⟩ : ∃ y_ : List Int, y_ = (x0_1 ++ [(x1_1) % 256]) := ⟨_, rfl⟩
   replace H : (some y474) = some r := rH_ hy474 H
   have Ny474 := Aside0.mk hy474
   clear hy474
   obtain rfl := Option.some.inj H
   go_wp2_with (first | ((with_reducible refine gate_builtin (b := .append) (xs := #[.tmp 16, .tmp 19]) rfl ?_); at_builtin; refine Kd.Z_append (Kd.int .u8) (w0 := w0) w0.heap.size rfl (.tmp 16) (.tmp 19) 22 5 (.int .u8 0) 1 rfl Tryd.underlying22 info5 rfl (by decide) (by omega) u0 x0_1 ((x1_1) % 256) [.int .u8 ((x1_1) % 256)] (fun k_ => (P0_ k_ ∨ w.heap.size ≤ k_)) (fun _ => False) rfl rfl ?aP (fun _ hk => hk.elim) ?aF ?aO ?aB ?aS ?aL rfl ?_; (case aP => exact rfl); (case aB => exact (bw_ HB)); (case aF => exact (fun k_ hk => (.inr (Nat.le_trans (by first | exact HK.out.1 | exact (show Kept w _ (fun k_ => P0_ k_) from by repeat (first | (with_reducible first | exact HK.out | apply Kept.alloc | apply Kept.drewN | apply Kept.drew) | exact HK.out)).1) hk)))); (case aO => exact (by (with_reducible repeat (first | apply Kd.R_alloc | apply Kd.R_drewN | apply Kd.R_drew)); exact HO_0.out)); (case aS => exact (below_size (bw_ HB))); (case aL => have := LMc6.out; omega); intro v475 w7 ho hb hg hat; rw [← Ny474.out] at ho; replace HB := Aside0.mk (hb); replace HK := Aside0.mk (Kept.of_grown (S := (fun k_ => P0_ k_)) hg (by repeat (first | (with_reducible first | exact HK.out | apply Kept.alloc | apply Kept.drewN | apply Kept.drew) | exact HK.out)) (fun k_ e_ => (Kd.Z_ok HO_0.out k_ e_))); have HO476 := Aside0.mk (ho); clear HO_0; clear ho hb hg hat))
   go_ret
   exact ⟨_, eR_, by (with_reducible repeat (first | apply Kd.R_alloc | apply Kd.R_drewN | apply Kd.R_drew)); exact HO476.out, bw_ HB, by repeat (first | (with_reducible first | exact HK.out | apply Kept.alloc | apply Kept.drewN | apply Kept.drew) | exact HK.out)⟩}
   {
   rw [if_neg c6] at H
   exact absurd H (by simp)}}
def spec_l10Text.f (k : Nat) (l0 : List Int) (a1 : ByteArray) : Option (List Int) := (spec_l10Num.f k l0 (a1.size : Int)).bind fun t477 => (if a1.size ≤ 9223372036854775807 then ((some (bytesOf a1 : List Int)).bind fun y480 => (if t477.length + y480.length < 140737488355328 then (some (t477 ++ y480)) else (none))) else (none))
theorem spec_l10Text.calls (k : Nat) (P0_ : Nat → Prop) (u9000_ : Value) (l0 : List Int) (a1 : ByteArray) (r : List Int) (w0 w : World) (hB : Below w0.heap.size w0 w) (ho0 : Kd.R (Kd.int .u8) 5 w w0.heap.size P0_ u9000_ l0) (h : spec_l10Text.f k l0 a1 = some r) :
 Calls Tryd.prog 54 #[u9000_, .string a1] w fun e w' => ∃ v0_ : Value, e = .returned (v0_) ∧ Kd.R (Kd.int .u8) 5 w' w0.heap.size (fun k_ => (P0_ k_ ∨ w.heap.size ≤ k_)) v0_ r ∧ Below w0.heap.size w0 w' ∧ Kept w w' (fun k_ => P0_ k_) := by
 have HO0 := Aside0.mk (show Kd.R (Kd.int .u8) 5 w w0.heap.size (fun k_ => (P0_ k_ ∨ w.heap.size ≤ k_)) u9000_ l0 from Kd.R_mono ho0 (fun k_ hk => (.inl hk)))
 have HK := Aside0.mk (Kept.refl w (fun k_ => P0_ k_))
 have HW0 := Aside0.mk hB.size
 have HB := Aside0.mk hB
 clear hB
 have H : ((spec_l10Num.f k l0 (a1.size : Int)).bind fun t477 => (if a1.size ≤ 9223372036854775807 then ((some (bytesOf a1 : List Int)).bind fun y480 => (if t477.length + y480.length < 140737488355328 then (some (t477 ++ y480)) else (none))) else (none))) = some r := h
 clear h
 replace H := Option.bind_eq_some_iff.mp H
 obtain ⟨t477, A30, H⟩ := H
 have A3 := Aside0.mk A30
 clear A30
 by_cases c4 : a1.size ≤ 9223372036854775807
 {
 rw [if_pos c4] at H
 have c4b0 := eq_true c4
 have c4b1 := decide_eq_true c4
 try have c4b2 : (9223372036854775807 < a1.size) = False := eq_false (Nat.not_lt.2 c4)
 clear c4
 obtain ⟨y480, hy480⟩ : ∃ y_ : List Int, y_ = (bytesOf a1) := ⟨_, rfl⟩
 replace H : (if t477.length + y480.length < 140737488355328 then (some (t477 ++ y480)) else (none)) = some r := rH_ hy480 H
 have Ny480 := Aside0.mk hy480
 clear hy480
 by_cases c5 : t477.length + y480.length < 140737488355328
 {
 rw [if_pos c5] at H
 have LMc5 := Aside0.mk c5
 clear c5
 obtain ⟨y482, hy482⟩ : ∃ y_ : List Int, y_ = (t477 ++ y480) := ⟨_, rfl⟩
 replace H : (some y482) = some r := rH_ hy482 H
 have Ny482 := Aside0.mk hy482
 clear hy482
 obtain rfl := Option.some.inj H
 obtain ⟨Ao6, co6, eo6⟩ := Kd.R_slice HO0.out
 subst eo6
 go_enter Tryd.func54, Tryd.ntmps54
 go_wp2_with (first | ((with_reducible refine gate_callee (f := 53) rfl ?_); refine gL_ (some 8) Tryd.func53 #[.slice Ao6 l0.length co6, .int .i64 (a1.size : Int)] ?_; (with_reducible refine (spec_l10Num.calls k (fun k_ => some k_ = (.slice Ao6 l0.length co6 : Value).ownBlock) (.slice Ao6 l0.length co6) l0 (a1.size : Int) t477 w0 _ ?side1 ?side2 A3.out).mono ?_); (case side1 => exact bw_ HB); (case side2 => exact Kd.R_tight rfl HO0.out); rintro e w7 ⟨v478, rfl, ho0, hb, hkp⟩; refine ⟨_, rfl, ?_⟩; have HO479 := Aside0.mk (Kd.R_mono (ok' := fun k_ => (P0_ k_ ∨ w.heap.size ≤ k_)) ho0 (fun k_ hk_ => Or.elim hk_ (fun hs_ => (HO0.out.1 k_ (hs_).symm)) (fun hn_ => (.inr (Nat.le_trans (by first | exact HK.out.1 | exact (show Kept w _ (fun k_ => P0_ k_) from by repeat (first | (with_reducible first | exact HK.out | apply Kept.alloc | apply Kept.drewN | apply Kept.drew) | exact HK.out)).1) hn_))))); replace HK := Aside0.mk (Kept.then_ (S := (fun k_ => P0_ k_)) (by repeat (first | (with_reducible first | exact HK.out | apply Kept.alloc | apply Kept.drewN | apply Kept.drew) | exact HK.out)) hkp (fun k_ hs_ => (fun e_ => (HO0.out.1 k_ e_.symm)) hs_)); replace HB := Aside0.mk (hb); clear HO0; (try clear hb); (try clear hkp); (try clear ho0)) | ((with_reducible refine gate_dst (N := 10) rfl ?_); refine conv_bytes rfl (N := 10) rfl 9 22 5 _ rfl Tryd.underlying9 Tryd.underlying22 Tryd.underlying5 a1 rfl (show a1.size ≤ 9223372036854775807 from by first | assumption | exact of_eq_true (by assumption) | exact of_decide_eq_true (by assumption) | decide | omega) _ Ny480.out ?_; intro A481 c481 w8 hcv hcl hb; replace HO479 := Aside0.mk (Kd.R_below (kr_ HO479) hb); replace HK := Aside0.mk (Kept.below (S := (fun k_ => P0_ k_)) (by repeat (first | (with_reducible first | exact HK.out | apply Kept.alloc | apply Kept.drewN | apply Kept.drew) | exact HK.out)) hb); replace HB := Aside0.mk (below_step (bw_ HB) hb); have HS481 := Aside0.mk (hcv); have HC481 := Aside0.mk (hcl); clear hb hcv hcl) | ((with_reducible refine gate_builtin (b := .append) (xs := #[.tmp 8, .tmp 10]) rfl ?_); at_builtin; refine Kd.R_append_rows (Kd.int .u8) (w0 := w0) w0.heap.size rfl (.tmp 8) (.tmp 10) 22 5 (.int .u8 0) 1 rfl Tryd.underlying22 info5 rfl (by decide) (by omega) v478 t477 y480 _ _ _ (fun k_ => (P0_ k_ ∨ w.heap.size ≤ k_)) (fun _ => False) rfl rfl ?aO ?aR (fun _ _ h => h) (fun _ h => h.elim) ?aF ?aB ?aS ?aL ?_; (case aR => repeat (first | exact (by repeat (first | (with_reducible exact HS481.out) | (with_reducible refine Kd.C_alloc ?_ _) | (with_reducible refine Kd.C_drewN ?_ _) | (with_reducible refine Kd.C_drew ?_) | exact HS481.out)) | (with_reducible refine Kd.C_alloc ?_ _) | (with_reducible refine Kd.C_drewN ?_ _) | (with_reducible refine Kd.C_drew ?_))); (case aB => exact (bw_ HB)); (case aF => exact (fun k_ hk => (.inr (Nat.le_trans (by first | exact HK.out.1 | exact (show Kept w _ (fun k_ => P0_ k_) from by repeat (first | (with_reducible first | exact HK.out | apply Kept.alloc | apply Kept.drewN | apply Kept.drew) | exact HK.out)).1) hk)))); (case aO => exact (kr_ HO479)); (case aS => exact (below_size (bw_ HB))); (case aL => have := LMc5.out; omega); intro v483 w9 ho hb hg hat; rw [← Ny482.out] at ho; replace HB := Aside0.mk (hb); replace HK := Aside0.mk (Kept.of_grown (S := (fun k_ => P0_ k_)) hg (by repeat (first | (with_reducible first | exact HK.out | apply Kept.alloc | apply Kept.drewN | apply Kept.drew) | exact HK.out)) (fun k_ e_ => (HO479.out.1 k_ e_))); have HO484 := Aside0.mk (ho); clear HO479; clear ho hb hg hat))
 go_ret
 exact ⟨_, eR_, kr_ HO484, bw_ HB, by repeat (first | (with_reducible first | exact HK.out | apply Kept.alloc | apply Kept.drewN | apply Kept.drew) | exact HK.out)⟩}
 {
 rw [if_neg c5] at H
 exact absurd H (by simp)}}
 {
 rw [if_neg c4] at H
 exact absurd H (by simp)
}
set_option maxHeartbeats 400000 in
theorem impl_entryAt.cl (x : S29) (p : ByteArray) (g : Nat) (w : World) (hb : w.cell? ⟨g, 0, none⟩ = some (.string p)) (hg : g < w.heap.size) :
 Calls Tryd.prog 56 #[.agg #[.string x.f0, .int .i64 x.f1, .string x.f2, .bool x.f3], .pointer (some ⟨g, 0, none⟩)] w fun e w' => e = .returned (.bool (x.f0.toList == p.toList)) ∧ Below w.heap.size w w' := by
 have hu29 := Tryd.underlying29
 go_enter Tryd.func56, Tryd.ntmps56
 go_wp2
 go_ret
 exact ⟨rfl, by repeat (first | (with_reducible first | exact Below.refl _ _ | apply below_alloc | apply pw_below_drewN | apply below_drew1) | exact Below.refl _ _)⟩
def impl_entryAt.first (p : ByteArray) : List S29 → Int → Int
 | [], _ => -1
 | e :: t, i => if (e.f0.toList == p.toList) = true then i else impl_entryAt.first p t (i + 1)
theorem impl_entryAt.fi_end (p : ByteArray) (l : List S29) (i : Nat) (h : l.length ≤ i) : impl_entryAt.first p (l.drop i) i = -1 := by
 rw [List.drop_eq_nil_of_le h]; rfl
theorem impl_entryAt.fi_yes (p : ByteArray) (l : List S29) (i : Nat) (h : i < l.length) (hc : ((rd_T29 l i).f0.toList == p.toList) = true) : impl_entryAt.first p (l.drop i) i = i := by
 rw [List.drop_eq_getElem_cons h, impl_entryAt.first, if_pos]
 simpa [rd_T29, List.getD_eq_getElem?_getD, List.getElem?_eq_getElem h] using hc
theorem impl_entryAt.fi_no (p : ByteArray) (l : List S29) (i : Nat) (h : i < l.length) (hc : ((rd_T29 l i).f0.toList == p.toList) = false) : impl_entryAt.first p (l.drop i) i = impl_entryAt.first p (l.drop (i + 1)) ((i + 1 : Nat) : Int) := by
 rw [List.drop_eq_getElem_cons h, impl_entryAt.first, if_neg]
 {
 rfl}
 {
 simpa [rd_T29, List.getD_eq_getElem?_getD, List.getElem?_eq_getElem h] using hc}
set_option maxHeartbeats 1000000 in
theorem impl_entryAt.indexFunc (A0 : Option Addr) (c0 : Nat) (l0 : List S29) (p : ByteArray) (g : Nat) (w : World) (hr0 : Kd.C k29 w A0 l0.length l0) (hc0 : l0.length ≤ c0) (hb : w.cell? ⟨g, 0, none⟩ = some (.string p)) (hg : g < w.heap.size) :
 Calls Tryd.prog 38 #[.slice A0 l0.length c0, .func (.func 56) #[] #[.pointer (some ⟨g, 0, none⟩)]] w fun e w' => e = .returned (.int .i64 (impl_entryAt.first p l0 0)) ∧ Below w.heap.size w w' := by
 have hu29 := Tryd.underlying29
 have HR0 := Aside0.mk hr0
 have HC0 := Aside0.mk hc0
 have HX := Aside0.mk (And.intro hb hg)
 have hl := hr0.2.1
 clear hr0 hc0 hb hg
 have HB := Aside0.mk (Below.refl w.heap.size w)
 go_enter Tryd.func38, Tryd.ntmps38
 go_wp2
 go_loopw [8] (fun v8 w' => ∃ i : Nat, v8 = .int .i64 i ∧ i ≤ l0.length ∧ Aside0 (impl_entryAt.first p l0 0 = impl_entryAt.first p (l0.drop i) i) ∧ Aside0 (Below w.heap.size w w')) (fun v8 _ => l0.length - (intOf v8).toNat)
 case atStart => exact ⟨0, rfl, Nat.zero_le _, ⟨rfl⟩, ⟨Below.refl _ _⟩⟩
 case round =>
  clear HB
  obtain ⟨i, rfl, hi, HF, HB⟩ := hrel
  by_cases hlt : i < l0.length
  {
  have p1 : 0 ≤ (i : Int) := by omega
  have q1 : (i : Int) < (l0.length : Int) := by omega
  obtain ⟨ad, e1, hx_0, hx_1, hx_2, hx_3⟩ := at_T29 HR0.out i p1 q1
  cases e1
  replace hx_0 := hX_ HB hx_0
  replace hx_1 := hX_ HB hx_1
  replace hx_2 := hX_ HB hx_2
  replace hx_3 := hX_ HB hx_3
  simp only [Int.toNat_natCast] at hx_0 hx_1 hx_2 hx_3
  have hbx := (HB.out.cell (World.block_lt_of_cell? w _ HX.out.1)).trans HX.out.1
  have hs := HB.out.size
  have c1 : decide ((i : Int) < (l0.length : Int)) = true := by simpa using hlt
  have c2 : decide ((i : Nat) < l0.length) = true := by simpa using hlt
  cases hcc : ((rd_T29 l0 i).f0.toList == p.toList) with
  | true =>
   have HCC := Aside0.mk hcc
   clear hcc
   go_wp2_with (go_at_call 56; refine (impl_entryAt.cl (rd_T29 l0 i) p g _ hbx (by have := HX.out.2; omega)).mono ?_; rintro e w8 ⟨rfl, hb8⟩; rw [HCC.out])
   go_ret
   refine ⟨?_, below_step HB.out hb8⟩
   rw [HF.out, impl_entryAt.fi_yes p l0 i hlt HCC.out]
   rfl
  | false =>
   have HCC := Aside0.mk hcc
   clear hcc
   have hw : wrap64 ((i : Int) + 1) = ((i + 1 : Nat) : Int) := by unfold wrap64; omega
   go_wp2_with (go_at_call 56; refine (impl_entryAt.cl (rd_T29 l0 i) p g _ hbx (by have := HX.out.2; omega)).mono ?_; rintro e w8 ⟨rfl, hb8⟩; rw [HCC.out])
   go_roundw
   case rel => exact ⟨i + 1, by first | rfl | (rw [hw]) | (congr 1), by omega, ⟨by rw [HF.out, impl_entryAt.fi_no p l0 i hlt HCC.out]⟩, ⟨below_step HB.out hb8⟩⟩
   case measure => simp [intOf]; omega}
  {
  have c1 : decide ((i : Int) < (l0.length : Int)) = false := by simpa using hlt
  have c2 : decide ((i : Nat) < l0.length) = false := by simpa using hlt
  go_wp2
  go_ret
  refine ⟨?_, HB.out⟩
  rw [HF.out, impl_entryAt.fi_end p l0 i (by omega)]
  rfl}
def impl_entryAt.f (l0 : List S29) (a1 : ByteArray) : Option Int := some (impl_entryAt.first a1 l0 0)
theorem impl_entryAt.calls (A0 : Option Addr) (c0 : Nat) (l0 : List S29) (a1 : ByteArray) (r : Int) (w : World) (hr0 : Kd.C k29 w A0 l0.length l0) (hc0 : l0.length ≤ c0) (h : impl_entryAt.f l0 a1 = some r) :
 Calls Tryd.prog 36 #[.slice A0 l0.length c0, .string a1] w fun e w' => e = .returned (.int .i64 r) ∧ Below w.heap.size w w' := by
 obtain rfl := Option.some.inj h
 have HR0 := Aside0.mk hr0
 have HC0 := Aside0.mk hc0
 clear hr0 hc0 h
 go_enter Tryd.func36, Tryd.ntmps36
 go_wp2_with (go_at_call 38; refine (impl_entryAt.indexFunc A0 c0 l0 a1 w.heap.size _ (Kd.C_below HR0.out (below_alloc (Below.refl _ _) _)) HC0.out (by simp [go_sem]) (by show _ < (w.heap.push _).size; rw [Array.size_push]; omega)).mono ?_; rintro e w8 ⟨rfl, hb8⟩)

 go_ret
 exact ⟨rfl, below_step (below_alloc (Below.refl _ _) _) hb8⟩
def impl_FindEntry.f (k : Nat) (l0 : List (S29)) (a1 : ByteArray) : Option (Int) := (impl_TreeOk.f k l0).bind fun t551 => (if t551 = true then ((impl_entryAt.f l0 a1).bind fun t552 => (some t552)) else (some (-1)))
theorem impl_FindEntry.calls (k : Nat) (A0 : Option Addr) (c0 : Nat) (l0 : List (S29)) (a1 : ByteArray) (r : Int) (w : World) (hE : EnvW w) (hr0 : Kd.C k29 w A0 l0.length l0) (hc0 : l0.length ≤ c0) (h : impl_FindEntry.f k l0 a1 = some r) :
 Calls Tryd.prog 15 #[.slice A0 l0.length c0, .string a1] w fun e w' => e = .returned (.int .i64 r) ∧ Below w.heap.size w w' := by
 have HE := Aside0.mk hE
 clear hE
 have HR0 := Aside0.mk hr0
 have HC0 := Aside0.mk hc0
 clear hr0 hc0
 have HB := Aside0.mk (Below.refl w.heap.size w)
 have H : ((impl_TreeOk.f k l0).bind fun t551 => (if t551 = true then ((impl_entryAt.f l0 a1).bind fun t552 => (some t552)) else (some (-1)))) = some r := h
 clear h
 replace H := Option.bind_eq_some_iff.mp H
 obtain ⟨t551, A30, H⟩ := H
 have A3 := Aside0.mk A30
 clear A30
 by_cases c4 : t551 = true
 {
 subst c4
 rw [if_pos rfl] at H
 replace H := Option.bind_eq_some_iff.mp H
 obtain ⟨t552, A50, H⟩ := H
 have A5 := Aside0.mk A50
 clear A50
 obtain rfl := Option.some.inj H
 go_enter Tryd.func15, Tryd.ntmps15
 go_wp2_with (first | ((with_reducible refine gate_callee (f := 22) rfl ?_); refine gL_ (some 6) Tryd.func22 #[.slice A0 l0.length c0] ?_; (with_reducible refine (impl_TreeOk.calls k _ _ l0 true _ ?side1 ?side2 ?side3 A3.out).mono ?_); (case side1 => refine EnvW.below HE.out ?_; exact bw_ HB); (case side2 => exact cc_ HR0); (case side3 => exact HC0.out); rintro e w6 ⟨rfl, hb⟩; refine ⟨_, rfl, ?_⟩; replace HB := Aside0.mk (below_step (bw_ HB) hb); clear hb) | ((with_reducible refine gate_callee (f := 36) rfl ?_); refine gL_ (some 10) Tryd.func36 #[.slice A0 l0.length c0, .string a1] ?_; (with_reducible refine (impl_entryAt.calls _ _ l0 a1 t552 _ ?side1 ?side2 A5.out).mono ?_); (case side1 => exact cS_ HR0 HB); (case side2 => exact HC0.out); rintro e w7 ⟨rfl, hb⟩; refine ⟨_, rfl, ?_⟩; replace HB := Aside0.mk (below_step (bw_ HB) hb); clear hb))
 go_ret
 exact ⟨eR_, bw_ HB⟩}
 {
 replace c4 := Bool.eq_false_iff.mpr c4
 subst c4
 rw [if_neg (show ¬ (false = true) by decide)] at H
 obtain rfl := Option.some.inj H
 go_enter Tryd.func15, Tryd.ntmps15
 go_wp2_with (first | ((with_reducible refine gate_callee (f := 22) rfl ?_); refine gL_ (some 6) Tryd.func22 #[.slice A0 l0.length c0] ?_; (with_reducible refine (impl_TreeOk.calls k _ _ l0 false _ ?side1 ?side2 ?side3 A3.out).mono ?_); (case side1 => refine EnvW.below HE.out ?_; exact bw_ HB); (case side2 => exact cc_ HR0); (case side3 => exact HC0.out); rintro e w8 ⟨rfl, hb⟩; refine ⟨_, rfl, ?_⟩; replace HB := Aside0.mk (below_step (bw_ HB) hb); clear hb))
 go_ret
 exact ⟨eR_, bw_ HB⟩}
def impl_cloneTree.f (l0 : List S29) : Option (List S29) := if l0.length < 2932031007402 then some l0 else none
set_option maxHeartbeats 1000000 in
theorem impl_cloneTree.calls (A0 : Option Addr) (c0 : Nat) (l0 : List S29) (r : List S29) (w : World) (hr0 : Kd.C k29 w A0 l0.length l0) (hc0 : l0.length ≤ c0) (h : impl_cloneTree.f l0 = some r) :
 Calls Tryd.prog 37 #[.slice A0 l0.length c0] w fun e w' => ∃ v0_ : Value, e = .returned (v0_) ∧ Kd.R k29 29 w' w.heap.size (fun _ => True) v0_ r ∧ Below w.heap.size w w' := by
 unfold impl_cloneTree.f at h
 by_cases c2 : l0.length < 2932031007402
 {
 rw [if_pos c2] at h
 obtain rfl := Option.some.inj h
 have HR0 := Aside0.mk hr0
 have HC0 := Aside0.mk hc0
 have LM := Aside0.mk c2
 clear hr0 hc0 h c2
 go_enter Tryd.func37, Tryd.ntmps37
 go_wp2_with (first | ((with_reducible refine gate_builtin (b := .append) (xs := #[.const (.slice none 0 0), .tmp 3]) rfl ?_); refine Kd.R_append_rows k29 (w0 := w) w.heap.size rfl (.const (.slice none 0 0)) (.tmp 3) 24 29 (.agg #[(.string ⟨#[]⟩), (.int .i64 0), (.string ⟨#[]⟩), (.bool false)]) 48 rfl Tryd.underlying24 info29 rfl (by decide) (by omega) (.slice none 0 0) [] l0 _ _ _ (fun _ => True) (fun _ => False) rfl rfl (Kd.R_nil _ _ _ _ _) HR0.out (fun _ _ h => h) (fun _ h => h.elim) (fun _ _ => trivial) (Below.refl _ _) (Nat.le_refl _) (by have := LM.out; simp only [List.length_nil]; omega) ?_; intro v391 w5 ho hb hg hat; rw [List.nil_append] at ho))
 go_ret
 exact ⟨_, rfl, ho, hb⟩}
 {
 rw [if_neg c2] at h
 cases h
}
end Go.Proofs.YtjnmcgeahomkeaaDoor.P
end
